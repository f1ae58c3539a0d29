/- The same functions with names for their slots (part 1 of 4), printed by a program of our own: each is what the evaluator's law says of the literal. -/
import Derived.Test.YtcgjkbnijnefjaaGreatDoorL3
import Derived.KernelRfl
namespace Go.PE
set_option maxRecDepth 100000
noncomputable section
def p14 (_ : Nat) : CtxK → List V → TH → R := fun X => ap 3 (fun x0 x1 x2 h3 =>
 kNew (V.cellsR x2) h3 fun x4 h5 =>
 kFA 0 x4 fun x6 =>
 kL1 x6 h5 fun x7 =>
 kCall X 37 [x0, x7] h5 fun x8 h9 =>
 kEq' false (.nilR .fn) x8 .nilfn fun x10 =>
 jc (α := V → TH → PD → R) (fun x13 h14 d15 =>
 jc (α := JT) (fun x17 h18 =>
 jc (α := JT) (fun x20 h21 =>
 kPick x10 qt x20 fun x23 =>
 jc (α := JT) (fun x24 h25 =>
 jc (α := V → TH → PD → R) (fun x29 h30 d31 =>
 jc (α := JT) (fun x33 h34 =>
 jc (α := JT) (fun x36 h37 =>
 jc (α := JT) (fun x39 h40 =>
 jc (α := V → TH → PD → R) (fun x44 h45 d46 =>
 jc (α := JT) (fun x48 h49 =>
 jc (α := JT) (fun x51 h52 =>
 jc (α := JT) (fun x54 h55 =>
 kPick x23 qt x54 fun x57 =>
 dokS [h14, h55] d46 (brS x57 (some (.nils, h55)) (kFA 0 x4 fun x58 =>
 kL1 x58 h55 fun x59 =>
 kEqI false x59 (qb 15) fun x60 =>
 jc (α := Cur 62) (fun _ x62 _ _ _ x66 _ x68 _ _ _ _ _ _ _ _ _ _ _ _ _ _ _ _ _ _ _ _ _ _ _ _ _ _ _ _ _ _ _ _ _ _ _ _ _ _ _ _ _ _ _ _ _ _ _ _ _ _ _ _ _ _ h123 =>
 kLA 131 x66 h123 fun x125 =>
 kCv X x68 [x62, x125] h123 fun x126 h127 =>
 some (x126, h127)) fun j124 =>
 brS x60 (kFA 123 x4 fun x128 =>
 kFA 3 x128 fun x129 =>
 kL1 x129 h55 fun x132 =>
 kNilc x0 fun x133 =>
 kFA 2 x133 fun x134 =>
 kL1 x134 h55 fun x137 =>
 kCall X 39 [x132] h55 fun x138 h139 =>
 kEqI true x138 x137 fun x140 =>
 dokS [h55, h139] ((fun h135 => kL1 x134 h135 fun x136 =>
 some (x136, h135), x137, 0, 1) :: []) (brS x140 (some (.nils, h139)) (j124 u x1 u u u x4 u x8 u u u u u u u u u u u u u u u u u u u u u u u u u u u u u u u u u u u u u u u u u u u u u u u u u u u u u u h139))) (kFA 12 x4 fun x141 =>
 kL1 x141 h55 fun x144 =>
 kNilc x0 fun x145 =>
 kFA 2 x145 fun x146 =>
 kL1 x146 h55 fun x149 =>
 kEqI true x144 x149 fun x150 =>
 jc (α := JT) (fun x151 h152 =>
 jc (α := V → TH → PD → R) (fun x156 h157 d158 =>
 jc (α := JT) (fun x160 h161 =>
 jc (α := JT) (fun x163 h164 =>
 jc (α := JT) (fun x166 h167 =>
 jc (α := V → TH → PD → R) (fun x171 h172 d173 =>
 jc (α := JT) (fun x175 h176 =>
 kPick x150 qt x175 fun x178 =>
 dokS [h176] d173 (brS x178 (some (.nils, h176)) (j124 u x1 u u u x4 u x8 u u u u u u u u u u u u u u u u u u u u u u u u u u u u u u u u u u u u u u u u u u u u u u u u u u u u u u h176))) fun j177 =>
 wtS x150 false (kEqI true x156 x171 fun x179 =>
 j177 x179 h172) (j177 u h172)) fun j174 =>
 wtS x150 false (kL1 x166 h167 fun x180 =>
 j174 x180 h167 d158) (j174 u h167 d158)) fun j168 =>
 wtS x150 false (kFA 52 x163 fun x181 =>
 j168 x181 h164) (j168 u h164)) fun j165 =>
 wtS x150 false (kNilc x160 fun x182 =>
 j165 x182 h161) (j165 u h161)) fun j162 =>
 wtS x150 false (j162 x0 h157) (j162 u h157)) fun j159 =>
 wtS x150 false (kL1 x151 h152 fun x183 =>
 j159 x183 h152 []) (j159 u h152 [])) fun j153 =>
 wtS x150 false (kFA 3 x4 fun x184 =>
 j153 x184 h55) (j153 u h55))))) fun j56 =>
 wtS x23 false (kEqI true x29 x51 fun x185 =>
 j56 x185 h52) (j56 u h52)) fun j53 =>
 wtS x23 false (kBin .add (qb 10) x48 fun x186 =>
 j53 x186 h49) (j53 u h49)) fun j50 =>
 wtS x23 false (kConv .u8 x44 fun x187 =>
 j50 x187 h45) (j50 u h45)) fun j47 =>
 wtS x23 false (kL1 x39 h40 fun x188 =>
 j47 x188 h40 d31) (j47 u h40 d31)) fun j41 =>
 wtS x23 false (kFA 0 x36 fun x189 =>
 j41 x189 h37) (j41 u h37)) fun j38 =>
 wtS x23 false (kNilc x33 fun x190 =>
 j38 x190 h34) (j38 u h34)) fun j35 =>
 wtS x23 false (j35 x0 h30) (j35 u h30)) fun j32 =>
 wtS x23 false (kL1 x24 h25 fun x191 =>
 j32 x191 h25 d15) (j32 u h25 d15)) fun j26 =>
 wtS x23 false (kFA 2 x4 fun x192 =>
 j26 x192 h21) (j26 u h21)) fun j22 =>
 wtS x10 false (kNot x17 fun x193 =>
 j22 x193 h18) (j22 u h18)) fun j19 =>
 wtS x10 false (kCall X 38 [x13] h14 fun x194 h195 =>
 j19 x194 h195) (j19 u h14)) fun j16 =>
 wtS x10 false (kLA 131 x4 h9 fun x196 =>
 j16 x196 h9 []) (j16 u h9 []))
theorem p14_ok (k : Nat) : p14 k = funcS k 3 lit14 := by kernel_rfl
def p21 (_ : Nat) : CtxK → List V → TH → R := fun X => ap 1 (fun x0 h1 =>
 kNilc x0 fun x2 =>
 kFA 0 x2 fun x3 =>
 kL1 x3 h1 fun x6 =>
 kNilc x0 fun x7 =>
 kFA 1 x7 fun x8 =>
 kL1 x8 h1 fun x11 =>
 kNilc x0 fun x12 =>
 kFA 2 x12 fun x13 =>
 kCall X 12 [x6, x11] h1 fun x14 h15 =>
 kIS 1 x14 (qi 0) fun x16 =>
 kL1 x16 h15 fun x19 =>
 kIA 5 1 x13 x19 fun x20 =>
 kL1 x20 h15 fun x23 =>
 dokS [h1, h15] [] (some (x23, h15)))
theorem p21_ok (k : Nat) : p21 k = funcS k 1 lit21 := by kernel_rfl
def p22 (_ : Nat) : CtxK → List V → TH → R := fun X => ap 1 (fun x0 h1 =>
 kNew (V.cellsR x0) h1 fun x2 h3 =>
 kLA 49 x2 h3 fun x4 =>
 kCall X 50 [x4] h3 fun x5 h6 =>
 kNot x5 fun x7 =>
 brS x7 (some (.tup [(qw 0), (qw 0)], h6)) (kLA 49 x2 h6 fun x8 =>
 kCall X 51 [x8] h6 fun x9 h10 =>
 kNew zr2 h10 fun x11 h12 =>
 kSA 8 x11 x9 h12 fun _ h14 =>
 kFA 0 x11 fun x15 =>
 kL1 x15 h14 fun x18 =>
 kFA 1 x11 fun x19 =>
 kL1 x19 h14 fun x22 =>
 dokS [h14] [] (some (.tup [x18, x22], h14))))
theorem p22_ok (k : Nat) : p22 k = funcS k 1 lit22 := by kernel_rfl
def p27 (k : Nat) : CtxK → List V → TH → R := fun X => ap 2 (fun x0 x1 h2 =>
 kNew (V.cellsR x1) h2 fun x3 h4 =>
 kNilc x0 fun x5 =>
 kFA 0 x5 fun x6 =>
 kL1 x6 h4 fun x9 =>
 kNilc x0 fun x10 =>
 kFA 0 x10 fun x11 =>
 kL1 x11 h4 fun x14 =>
 kLA 3 x3 h4 fun x17 =>
 kCall X 58 [x14] h4 fun x18 h19 =>
 kBin .add x18 (qw 1) fun x20 =>
 kCall X 57 [x9, x20, x17] h19 fun _ h22 =>
 dokS [h4, h19, h22] ((fun h15 => kLA 3 x3 h15 fun x16 =>
 some (x16, h15), x17, 0, 1) :: ((fun h7 => kL1 x6 h7 fun x8 =>
 some (x8, h7), x9, 0, 1) :: [])) (lp (α := Cur 40) (zN 40) (fun n64 x23 _ _ _ x27 _ _ _ _ _ _ _ _ _ _ _ _ _ _ _ _ _ _ _ _ _ _ _ _ _ _ _ _ _ _ _ _ _ _ _ h63 =>
 kBin .lss x27 (qi 5) fun x65 =>
 brS x65 (kNilc x23 fun x66 =>
 kFA 7 x66 fun x67 =>
 kL1 x67 h63 fun x70 =>
 kNilc x23 fun x71 =>
 kFA 2 x71 fun x72 =>
 kIA 5 1 x72 x27 fun x73 =>
 kL1 x73 h63 fun x76 =>
 kNilc x23 fun x77 =>
 kFA 0 x77 fun x78 =>
 kL1 x78 h63 fun x81 =>
 kCall X 25 [x76, x81] h63 fun x82 h83 =>
 kAp 131 1400 x70 x82 h83 fun x84 h85 =>
 kNilc x23 fun x86 =>
 kFA 7 x86 fun x87 =>
 kS1 x87 x84 h85 fun _ h89 =>
 dokS [h63, h83, h85, h89] ((fun h68 => kL1 x67 h68 fun x69 =>
 some (x69, h68), x70, 0, 1) :: []) (kBin .add x27 (qi 1) fun x90 =>
 n64 x23 u u u x90 u u u u u u u u u u u u u u u u u u u u u u u u u u u u u u u u u u u h89)) (some (.tup [], h63))) k x0 u u u (qi 0) u u u u u u u u u u u u u u u u u u u u u u u u u u u u u u u u u u u h22))
theorem p27_ok (k : Nat) : p27 k = funcS k 2 lit27 := by kernel_rfl
def p34 (_ : Nat) : CtxK → List V → TH → R := fun _ => ap 1 (fun x0 h1 =>
 kEq' false (.nilR .sl) x0 .nils fun x2 =>
 brS x2 (some (.nils, h1)) (kBS 1 [(qi 0)] 0 [] h1 fun x3 h4 =>
 kAp 1 8 x3 x0 h4 fun x5 h6 =>
 some (x5, h6)))
theorem p34_ok (k : Nat) : p34 k = funcS k 1 lit34 := by kernel_rfl
def p35 (_ : Nat) : CtxK → List V → TH → R := fun _ => ap 2 (fun x0 x1 h2 =>
 kNew [(qw 0), .nils] h2 fun x3 h4 =>
 kBin .geq x1 (qb 4) fun x5 =>
 brS x5 (kB [(qw 0), .nils] [] fun x6 =>
 kSA 2 x3 x6 h4 fun _ h8 =>
 rsS [.cell 4 true 2] [x0, x1, u, u, x3, u, x1, x5, x6, u, u, u, u, u, u, u, u, u, u, u, u] h8) (kNilc x0 fun x9 =>
 kFA 3 x9 fun x10 =>
 kIA 4 1 x10 x1 fun x11 =>
 kL1 x11 h4 fun x12 =>
 kLen x12 fun x13 =>
 kBin .sub x13 (qi 1) fun x14 =>
 kIS 2 x12 x14 fun x15 =>
 kLA 2 x15 h4 fun x16 =>
 kSA 2 x3 x16 h4 fun _ h18 =>
 rsS [.cell 4 true 2] [x0, x1, u, u, x3, x12, x1, x5, u, x0, x1, x9, x10, x11, x12, x12, x12, x13, x14, x15, x16] h18))
theorem p35_ok (k : Nat) : p35 k = funcS k 2 lit35 := by kernel_rfl
def p38 (_ : Nat) : CtxK → List V → TH → R := fun X => ap 1 (fun x0 h1 =>
 kNew (V.cellsR x0) h1 fun x2 h3 =>
 kLA 131 x2 h3 fun x4 =>
 kCall X 72 [x4] h3 fun x5 h6 =>
 kNot x5 fun x7 =>
 jc (α := JT) (fun x8 h9 =>
 jc (α := JT) (fun x11 h12 =>
 jc (α := JT) (fun x14 h15 =>
 jc (α := JT) (fun x17 h18 =>
 jc (α := JT) (fun x20 h21 =>
 kPick x7 qt x20 fun x23 =>
 brS x23 (some (qf, h21)) (kFA 0 x2 fun x24 =>
 kL1 x24 h21 fun x25 =>
 kCall X 73 [x25] h21 fun x26 h27 =>
 kNew zr3 h27 fun x28 h29 =>
 kSA 11 x28 x26 h29 fun _ h31 =>
 kLA 131 x2 h31 fun x32 =>
 kLA 11 x28 h31 fun x33 =>
 kCall X 74 [x32, x33] h31 fun x34 h35 =>
 jc (α := JT) (fun x36 h37 =>
 jc (α := JT) (fun x39 h40 =>
 jc (α := JT) (fun x42 h43 =>
 jc (α := JT) (fun x45 h46 =>
 jc (α := JT) (fun x48 h49 =>
 jc (α := JT) (fun x51 h52 =>
 jc (α := JT) (fun x54 h55 =>
 kPick x34 x54 qf fun x57 =>
 jc (α := JT) (fun x58 h59 =>
 jc (α := JT) (fun x61 h62 =>
 jc (α := JT) (fun x64 h65 =>
 jc (α := JT) (fun x67 h68 =>
 jc (α := JT) (fun x70 h71 =>
 jc (α := JT) (fun x73 h74 =>
 jc (α := JT) (fun x76 h77 =>
 kPick x57 x76 qf fun x79 =>
 jc (α := JT) (fun x80 h81 =>
 jc (α := JT) (fun x83 h84 =>
 jc (α := JT) (fun x86 h87 =>
 jc (α := JT) (fun x89 h90 =>
 jc (α := JT) (fun x92 h93 =>
 jc (α := JT) (fun x95 h96 =>
 jc (α := JT) (fun x98 h99 =>
 kPick x79 x98 qf fun x101 =>
 jc (α := JT) (fun x102 h103 =>
 jc (α := JT) (fun x105 h106 =>
 jc (α := JT) (fun x108 h109 =>
 kPick x101 x108 qf fun x111 =>
 jc (α := JT) (fun x112 h113 =>
 jc (α := JT) (fun x115 h116 =>
 jc (α := JT) (fun x118 h119 =>
 jc (α := JT) (fun x121 h122 =>
 jc (α := JT) (fun x124 h125 =>
 jc (α := JT) (fun x127 h128 =>
 jc (α := JT) (fun x130 h131 =>
 jc (α := JT) (fun x133 h134 =>
 kPick x111 x133 qf fun x136 =>
 jc (α := JT) (fun x137 h138 =>
 jc (α := JT) (fun x140 h141 =>
 jc (α := JT) (fun x143 h144 =>
 jc (α := JT) (fun x146 h147 =>
 jc (α := JT) (fun x149 h150 =>
 jc (α := JT) (fun x152 h153 =>
 jc (α := JT) (fun x155 h156 =>
 jc (α := JT) (fun x158 h159 =>
 kPick x136 x158 qf fun x161 =>
 jc (α := JT) (fun x162 h163 =>
 jc (α := JT) (fun x165 h166 =>
 jc (α := JT) (fun x168 h169 =>
 jc (α := JT) (fun x171 h172 =>
 jc (α := JT) (fun x174 h175 =>
 jc (α := JT) (fun x177 h178 =>
 jc (α := JT) (fun x180 h181 =>
 jc (α := JT) (fun x183 h184 =>
 kPick x161 x183 qf fun x186 =>
 jc (α := JT) (fun x187 h188 =>
 jc (α := JT) (fun x190 h191 =>
 kPick x186 x190 qf fun x193 =>
 jc (α := JT) (fun x194 h195 =>
 jc (α := JT) (fun x197 h198 =>
 jc (α := JT) (fun x200 h201 =>
 jc (α := JT) (fun x203 h204 =>
 jc (α := JT) (fun x206 h207 =>
 jc (α := JT) (fun x209 h210 =>
 jc (α := JT) (fun x212 h213 =>
 kPick x193 x212 qf fun x215 =>
 jc (α := JT) (fun x216 h217 =>
 jc (α := JT) (fun x219 h220 =>
 jc (α := JT) (fun x222 h223 =>
 jc (α := JT) (fun x225 h226 =>
 kPick x215 x225 qf fun x228 =>
 jc (α := JT) (fun x229 h230 =>
 jc (α := JT) (fun x232 h233 =>
 jc (α := JT) (fun x235 h236 =>
 jc (α := JT) (fun x238 h239 =>
 jc (α := JT) (fun x241 h242 =>
 kPick x228 x241 qf fun x244 =>
 some (x244, h242)) fun j243 =>
 wtS x228 true (kBin .leq x238 (qi 80) fun x245 =>
 j243 x245 h239) (j243 u h239)) fun j240 =>
 wtS x228 true (kP (lenV true x235) fun x246 =>
 j240 x246 h236) (j240 u h236)) fun j237 =>
 wtS x228 true (kL1 x232 h233 fun x247 =>
 j237 x247 h233) (j237 u h233)) fun j234 =>
 wtS x228 true (kFA 1 x229 fun x248 =>
 j234 x248 h230) (j234 u h230)) fun j231 =>
 wtS x228 true (kFA 129 x2 fun x249 =>
 j231 x249 h226) (j231 u h226)) fun j227 =>
 wtS x215 true (kBin .leq x222 (qb 3) fun x250 =>
 j227 x250 h223) (j227 u h223)) fun j224 =>
 wtS x215 true (kL1 x219 h220 fun x251 =>
 j224 x251 h220) (j224 u h220)) fun j221 =>
 wtS x215 true (kFA 0 x216 fun x252 =>
 j221 x252 h217) (j221 u h217)) fun j218 =>
 wtS x215 true (kFA 129 x2 fun x253 =>
 j218 x253 h213) (j218 u h213)) fun j214 =>
 wtS x193 true (kPick x203 qt x209 fun x254 =>
 j214 x254 h210) (j214 u h210)) fun j211 =>
 wtS x203 false (kCall X 81 [x206] h207 fun x255 h256 =>
 j211 x255 h256) (j211 u h207)) fun j208 =>
 wtS x203 false (kLA 131 x2 h204 fun x257 =>
 j208 x257 h204) (j208 u h204)) fun j205 =>
 wtS x193 true (j205 x200 h201) (j205 u h201)) fun j202 =>
 wtS x193 true (kNot x197 fun x258 =>
 j202 x258 h198) (j202 u h198)) fun j199 =>
 wtS x193 true (kL1 x194 h195 fun x259 =>
 j199 x259 h195) (j199 u h195)) fun j196 =>
 wtS x193 true (kFA 9 x28 fun x260 =>
 j196 x260 h191) (j196 u h191)) fun j192 =>
 wtS x186 true (kCall X 80 [x187] h188 fun x261 h262 =>
 j192 x261 h262) (j192 u h188)) fun j189 =>
 wtS x186 true (kLA 131 x2 h184 fun x263 =>
 j189 x263 h184) (j189 u h184)) fun j185 =>
 wtS x161 true (kPick x171 qt x180 fun x264 =>
 j185 x264 h181) (j185 u h181)) fun j182 =>
 wtS x171 false (kCall X 79 [x177] h178 fun x265 h266 =>
 j182 x265 h266) (j182 u h178)) fun j179 =>
 wtS x171 false (kLA 8 x174 h175 fun x267 =>
 j179 x267 h175) (j179 u h175)) fun j176 =>
 wtS x171 false (kFA 114 x2 fun x268 =>
 j176 x268 h172) (j176 u h172)) fun j173 =>
 wtS x161 true (j173 x168 h169) (j173 u h169)) fun j170 =>
 wtS x161 true (kNot x165 fun x269 =>
 j170 x269 h166) (j170 u h166)) fun j167 =>
 wtS x161 true (kL1 x162 h163 fun x270 =>
 j167 x270 h163) (j167 u h163)) fun j164 =>
 wtS x161 true (kFA 7 x28 fun x271 =>
 j164 x271 h159) (j164 u h159)) fun j160 =>
 wtS x136 true (kPick x146 qt x155 fun x272 =>
 j160 x272 h156) (j160 u h156)) fun j157 =>
 wtS x146 false (kCall X 78 [x152] h153 fun x273 h274 =>
 j157 x273 h274) (j157 u h153)) fun j154 =>
 wtS x146 false (kLA 52 x149 h150 fun x275 =>
 j154 x275 h150) (j154 u h150)) fun j151 =>
 wtS x146 false (kFA 62 x2 fun x276 =>
 j151 x276 h147) (j151 u h147)) fun j148 =>
 wtS x136 true (j148 x143 h144) (j148 u h144)) fun j145 =>
 wtS x136 true (kNot x140 fun x277 =>
 j145 x277 h141) (j145 u h141)) fun j142 =>
 wtS x136 true (kL1 x137 h138 fun x278 =>
 j142 x278 h138) (j142 u h138)) fun j139 =>
 wtS x136 true (kFA 6 x28 fun x279 =>
 j139 x279 h134) (j139 u h134)) fun j135 =>
 wtS x111 true (kPick x121 qt x130 fun x280 =>
 j135 x280 h131) (j135 u h131)) fun j132 =>
 wtS x121 false (kCall X 50 [x127] h128 fun x281 h282 =>
 j132 x281 h282) (j132 u h128)) fun j129 =>
 wtS x121 false (kLA 49 x124 h125 fun x283 =>
 j129 x283 h125) (j129 u h125)) fun j126 =>
 wtS x121 false (kFA 13 x2 fun x284 =>
 j126 x284 h122) (j126 u h122)) fun j123 =>
 wtS x111 true (j123 x118 h119) (j123 u h119)) fun j120 =>
 wtS x111 true (kNot x115 fun x285 =>
 j120 x285 h116) (j120 u h116)) fun j117 =>
 wtS x111 true (kL1 x112 h113 fun x286 =>
 j117 x286 h113) (j117 u h113)) fun j114 =>
 wtS x111 true (kFA 5 x28 fun x287 =>
 j114 x287 h109) (j114 u h109)) fun j110 =>
 wtS x101 true (kBin .lss x105 (qb 4) fun x288 =>
 j110 x288 h106) (j110 u h106)) fun j107 =>
 wtS x101 true (kL1 x102 h103 fun x289 =>
 j107 x289 h103) (j107 u h103)) fun j104 =>
 wtS x101 true (kFA 12 x2 fun x290 =>
 j104 x290 h99) (j104 u h99)) fun j100 =>
 wtS x79 true (kPick x89 qt x95 fun x291 =>
 j100 x291 h96) (j100 u h96)) fun j97 =>
 wtS x89 false (kCall X 77 [x92] h93 fun x292 h293 =>
 j97 x292 h293) (j97 u h93)) fun j94 =>
 wtS x89 false (kLA 131 x2 h90 fun x294 =>
 j94 x294 h90) (j94 u h90)) fun j91 =>
 wtS x79 true (j91 x86 h87) (j91 u h87)) fun j88 =>
 wtS x79 true (kNot x83 fun x295 =>
 j88 x295 h84) (j88 u h84)) fun j85 =>
 wtS x79 true (kL1 x80 h81 fun x296 =>
 j85 x296 h81) (j85 u h81)) fun j82 =>
 wtS x79 true (kFA 3 x28 fun x297 =>
 j82 x297 h77) (j82 u h77)) fun j78 =>
 wtS x57 true (kPick x67 qt x73 fun x298 =>
 j78 x298 h74) (j78 u h74)) fun j75 =>
 wtS x67 false (kCall X 76 [x70] h71 fun x299 h300 =>
 j75 x299 h300) (j75 u h71)) fun j72 =>
 wtS x67 false (kLA 131 x2 h68 fun x301 =>
 j72 x301 h68) (j72 u h68)) fun j69 =>
 wtS x57 true (j69 x64 h65) (j69 u h65)) fun j66 =>
 wtS x57 true (kNot x61 fun x302 =>
 j66 x302 h62) (j66 u h62)) fun j63 =>
 wtS x57 true (kL1 x58 h59 fun x303 =>
 j63 x303 h59) (j63 u h59)) fun j60 =>
 wtS x57 true (kFA 1 x28 fun x304 =>
 j60 x304 h55) (j60 u h55)) fun j56 =>
 wtS x34 true (kPick x45 qt x51 fun x305 =>
 j56 x305 h52) (j56 u h52)) fun j53 =>
 wtS x45 false (kCall X 75 [x48] h49 fun x306 h307 =>
 j53 x306 h307) (j53 u h49)) fun j50 =>
 wtS x45 false (kLA 131 x2 h46 fun x308 =>
 j50 x308 h46) (j50 u h46)) fun j47 =>
 wtS x34 true (j47 x42 h43) (j47 u h43)) fun j44 =>
 wtS x34 true (kNot x39 fun x309 =>
 j44 x309 h40) (j44 u h40)) fun j41 =>
 wtS x34 true (kL1 x36 h37 fun x310 =>
 j41 x310 h37) (j41 u h37)) fun j38 =>
 wtS x34 true (kFA 0 x28 fun x311 =>
 j38 x311 h35) (j38 u h35))) fun j22 =>
 wtS x7 false (kEqI false x11 x17 fun x312 =>
 j22 x312 h18) (j22 u h18)) fun j19 =>
 wtS x7 false (kL1 x14 h15 fun x313 =>
 j19 x313 h15) (j19 u h15)) fun j16 =>
 wtS x7 false (kFA 2 x2 fun x314 =>
 j16 x314 h12) (j16 u h12)) fun j13 =>
 wtS x7 false (kL1 x8 h9 fun x315 =>
 j13 x315 h9) (j13 u h9)) fun j10 =>
 wtS x7 false (kFA 1 x2 fun x316 =>
 j10 x316 h6) (j10 u h6))
theorem p38_ok (k : Nat) : p38 k = funcS k 1 lit38 := by kernel_rfl
def p39 (_ : Nat) : CtxK → List V → TH → R := fun X => ap 1 (fun x0 h1 =>
 kConv .u64 x0 fun x2 =>
 kCall X 82 [x2] h1 fun x3 h4 =>
 kBin .rem x3 (.int .u64 4) fun x5 =>
 kConv .u8 x5 fun x6 =>
 some (x6, h4))
theorem p39_ok (k : Nat) : p39 k = funcS k 1 lit39 := by kernel_rfl
def p41 (k : Nat) : CtxK → List V → TH → R := fun X => ap 3 (fun x0 x1 x2 h3 =>
 kCall X 84 [x1] h3 fun x4 h5 =>
 kCall X 83 [x4] h5 fun x6 h7 =>
 kLen x6 fun x8 =>
 lp (α := Cur 32) (zN 32) (fun n42 x9 _ x11 _ _ _ _ x16 _ _ _ _ x21 x22 x23 _ _ _ _ _ _ _ _ _ _ _ _ _ _ _ _ _ h41 =>
 kBin .lss x23 x22 fun x43 =>
 brS x43 (kIS 1 x21 x23 fun x44 =>
 kL1 x44 h41 fun x45 =>
 kNilc x9 fun x46 =>
 kFA 0 x46 fun x47 =>
 kL1 x47 h41 fun x48 =>
 kEqI true x45 x48 fun x49 =>
 jc (α := Cur 32) (fun x50 _ x52 _ _ _ _ x57 _ _ _ _ x62 x63 x64 _ _ _ _ _ _ _ _ _ _ _ _ _ _ _ _ _ h82 =>
 kBin .add x64 (qi 1) fun x84 =>
 n42 x50 u x52 u u u u x57 u u u u x62 x63 x84 u u u u u u u u u u u u u u u u u h82) fun j83 =>
 brS x49 (kCv X x11 [x45] h41 fun x85 h86 =>
 kBS 131 zr1 1 [(0, 131, x85)] h86 fun x87 h88 =>
 kAp 131 1400 x16 x87 h88 fun x89 h90 =>
 j83 x9 u x11 u u u u x89 u u u u x21 x22 x23 u u u u u u u u u u u u u u u u u h90) (j83 x9 u x11 u u u u x16 u u u u x21 x22 x23 u u u u u u u u u u u u u u u u u h41)) (some (x16, h41))) k x0 u x2 u u u u .nils u u u u x6 x8 (qi 0) u u u u u u u u u u u u u u u u u h7)
theorem p41_ok (k : Nat) : p41 k = funcS k 3 lit41 := by kernel_rfl
def p47 (_ : Nat) : CtxK → List V → TH → R := fun X => ap 3 (fun x0 x1 x2 h3 =>
 kNew (V.cellsR x2) h3 fun x4 h5 =>
 kNew zr1 h5 fun x6 h7 =>
 kCall X 89 [x0, (qb 11), x1] h7 fun x8 h9 =>
 kNew zr1 h9 fun x10 h11 =>
 kSA 131 x10 x8 h11 fun _ h13 =>
 kLA 8 x4 h13 fun x14 =>
 kFA 114 x10 fun x15 =>
 kSA 8 x15 x14 h13 fun _ h17 =>
 kLA 131 x10 h17 fun x18 =>
 kSA 131 x6 x18 h17 fun _ h20 =>
 rsS [.cell 6 true 131] [x0, x1, x2, u, u, x4, x6, x10, x0, x1, x8, x14, x15, x18] h20)
theorem p47_ok (k : Nat) : p47 k = funcS k 3 lit47 := by kernel_rfl
def p73 (_ : Nat) : CtxK → List V → TH → R := fun X => ap 1 (fun x0 h1 =>
 kNew zr3 h1 fun x2 h3 =>
 kEqI false x0 (qb 1) fun x4 =>
 jc (α := Cur 32) (fun x5 x6 x7 x8 x9 x10 x11 x12 x13 x14 x15 x16 x17 x18 x19 x20 x21 x22 x23 x24 x25 x26 x27 x28 x29 x30 x31 x32 x33 x34 x35 x36 h37 =>
 brS x9 (kB zr3 [(0, 1, qt), (1, 1, qt)] fun x39 =>
 kSA 11 x7 x39 h37 fun _ h41 =>
 rsS [.cell 2 true 11] [x5, x6, x7, x8, x9, x10, x11, x12, x39, x14, x15, x16, x17, x18, x19, x20, x21, x22, x23, x24, x25, x26, x27, x28, x29, x30, x31, x32, x33, x34, x35, x36] h41) (kEqI false x8 (qb 2) fun x42 =>
 brS x42 (kB zr3 [(0, 1, qt), (1, 1, qt), (2, 1, qt), (3, 1, qt)] fun x43 =>
 kSA 11 x7 x43 h37 fun _ h45 =>
 rsS [.cell 2 true 11] [x5, x6, x7, x8, x9, x10, x11, x12, x13, x42, x42, x43, x17, x18, x19, x20, x21, x22, x23, x24, x25, x26, x27, x28, x29, x30, x31, x32, x33, x34, x35, x36] h45) (kEqI false x8 (qb 3) fun x46 =>
 brS x46 (kB zr3 [(0, 1, qt), (1, 1, qt), (3, 1, qt)] fun x47 =>
 kSA 11 x7 x47 h37 fun _ h49 =>
 rsS [.cell 2 true 11] [x5, x6, x7, x8, x9, x10, x11, x12, x13, x42, x42, x16, x46, x46, x47, x20, x21, x22, x23, x24, x25, x26, x27, x28, x29, x30, x31, x32, x33, x34, x35, x36] h49) (kEqI false x8 (qb 5) fun x50 =>
 brS x50 (kB zr3 [(0, 1, qt), (3, 1, qt)] fun x51 =>
 kSA 11 x7 x51 h37 fun _ h53 =>
 rsS [.cell 2 true 11] [x5, x6, x7, x8, x9, x10, x11, x12, x13, x42, x42, x16, x46, x46, x19, x50, x50, x51, x23, x24, x25, x26, x27, x28, x29, x30, x31, x32, x33, x34, x35, x36] h53) (kEqI false x8 (qb 6) fun x54 =>
 brS x54 (kB zr3 [(0, 1, qt)] fun x55 =>
 kSA 11 x7 x55 h37 fun _ h57 =>
 rsS [.cell 2 true 11] [x5, x6, x7, x8, x9, x10, x11, x12, x13, x42, x42, x16, x46, x46, x19, x50, x50, x22, x54, x54, x55, x26, x27, x28, x29, x30, x31, x32, x33, x34, x35, x36] h57) (kEqI false x8 (qb 17) fun x58 =>
 brS x58 (kB zr3 [(8, 1, qt)] fun x59 =>
 kSA 11 x7 x59 h37 fun _ h61 =>
 rsS [.cell 2 true 11] [x5, x6, x7, x8, x9, x10, x11, x12, x13, x42, x42, x16, x46, x46, x19, x50, x50, x22, x54, x54, x25, x58, x58, x59, x29, x30, x31, x32, x33, x34, x35, x36] h61) (kEqI false x8 (qb 15) fun x62 =>
 brS x62 (kB zr3 [(9, 1, qt)] fun x63 =>
 kSA 11 x7 x63 h37 fun _ h65 =>
 rsS [.cell 2 true 11] [x5, x6, x7, x8, x9, x10, x11, x12, x13, x42, x42, x16, x46, x46, x19, x50, x50, x22, x54, x54, x25, x58, x58, x28, x62, x62, x63, x32, x33, x34, x35, x36] h65) (kEqI false x8 (qb 16) fun x66 =>
 brS x66 (kB zr3 [(9, 1, qt), (10, 1, qt)] fun x67 =>
 kSA 11 x7 x67 h37 fun _ h69 =>
 rsS [.cell 2 true 11] [x5, x6, x7, x8, x9, x10, x11, x12, x13, x42, x42, x16, x46, x46, x19, x50, x50, x22, x54, x54, x25, x58, x58, x28, x62, x62, x31, x66, x66, x67, x35, x36] h69) (kCall X 119 [x5] h37 fun x70 h71 =>
 kSA 11 x7 x70 h71 fun _ h73 =>
 rsS [.cell 2 true 11] [x5, x6, x7, x8, x9, x10, x11, x12, x13, x42, x42, x16, x46, x46, x19, x50, x50, x22, x54, x54, x25, x58, x58, x28, x62, x62, x31, x66, x66, x34, x5, x70] h73))))))))) fun j38 =>
 brS x4 (j38 x0 u x2 x0 x4 u u u u u u u u u u u u u u u u u u u u u u u u u u u h3) (kEqI false x0 (qb 4) fun x74 =>
 jc (α := Cur 32) (fun x75 _ x77 x78 x79 _ _ _ _ _ _ _ _ _ _ _ _ _ _ _ _ _ _ _ _ _ _ _ _ _ _ _ h107 =>
 j38 x75 u x77 x78 x79 u u u u u u u u u u u u u u u u u u u u u u u u u u u h107) fun j108 =>
 brS x74 (j108 x0 u x2 x0 x74 u u u u u u u u u u u u u u u u u u u u u u u u u u u h3) (kEqI false x0 (qb 18) fun x109 =>
 j108 x0 u x2 x0 x109 u u u u u u u u u u u u u u u u u u u u u u u u u u u h3)))
theorem p73_ok (k : Nat) : p73 k = funcS k 1 lit73 := by kernel_rfl
def p79 (_ : Nat) : CtxK → List V → TH → R := fun X => ap 1 (fun x0 h1 =>
 kNew (V.cellsR x0) h1 fun x2 h3 =>
 kFA 2 x2 fun x4 =>
 kLA 6 x4 h3 fun x5 =>
 kCall X 9 [x5] h3 fun x6 h7 =>
 jc (α := JT) (fun x8 h9 =>
 jc (α := JT) (fun x11 h12 =>
 jc (α := JT) (fun x14 h15 =>
 kPick x6 x14 qf fun x17 =>
 jc (α := JT) (fun x18 h19 =>
 jc (α := JT) (fun x21 h22 =>
 jc (α := JT) (fun x24 h25 =>
 kPick x17 x24 qf fun x27 =>
 jc (α := JT) (fun x28 h29 =>
 jc (α := JT) (fun x31 h32 =>
 jc (α := JT) (fun x34 h35 =>
 kPick x27 x34 qf fun x37 =>
 some (x37, h35)) fun j36 =>
 wtS x27 true (kBin .leq x31 (qw 60) fun x38 =>
 j36 x38 h32) (j36 u h32)) fun j33 =>
 wtS x27 true (kL1 x28 h29 fun x39 =>
 j33 x39 h29) (j33 u h29)) fun j30 =>
 wtS x27 true (kFA 0 x2 fun x40 =>
 j30 x40 h25) (j30 u h25)) fun j26 =>
 wtS x17 true (kBin .geq x21 (qw 1) fun x41 =>
 j26 x41 h22) (j26 u h22)) fun j23 =>
 wtS x17 true (kL1 x18 h19 fun x42 =>
 j23 x42 h19) (j23 u h19)) fun j20 =>
 wtS x17 true (kFA 0 x2 fun x43 =>
 j20 x43 h15) (j20 u h15)) fun j16 =>
 wtS x6 true (kBin .gtr x11 (qw 0) fun x44 =>
 j16 x44 h12) (j16 u h12)) fun j13 =>
 wtS x6 true (kL1 x8 h9 fun x45 =>
 j13 x45 h9) (j13 u h9)) fun j10 =>
 wtS x6 true (kFA 1 x2 fun x46 =>
 j10 x46 h7) (j10 u h7))
theorem p79_ok (k : Nat) : p79 k = funcS k 1 lit79 := by kernel_rfl
def p81 (_ : Nat) : CtxK → List V → TH → R := fun X => ap 1 (fun x0 h1 =>
 kNew (V.cellsR x0) h1 fun x2 h3 =>
 kFA 0 x2 fun x4 =>
 kL1 x4 h3 fun x5 =>
 kEqI false x5 (qb 15) fun x6 =>
 brS x6 (kFA 123 x2 fun x7 =>
 kLA 6 x7 h3 fun x8 =>
 kCall X 33 [x8] h3 fun x9 h10 =>
 jc (α := JT) (fun x11 h12 =>
 jc (α := JT) (fun x14 h15 =>
 jc (α := JT) (fun x17 h18 =>
 jc (α := JT) (fun x20 h21 =>
 jc (α := JT) (fun x23 h24 =>
 jc (α := JT) (fun x26 h27 =>
 jc (α := JT) (fun x29 h30 =>
 kPick x9 x29 qf fun x32 =>
 some (x32, h30)) fun j31 =>
 wtS x9 true (kEqI false x14 x26 fun x33 =>
 j31 x33 h27) (j31 u h27)) fun j28 =>
 wtS x9 true (kBin .add (qb 20) x23 fun x34 =>
 j28 x34 h24) (j28 u h24)) fun j25 =>
 wtS x9 true (kL1 x20 h21 fun x35 =>
 j25 x35 h21) (j25 u h21)) fun j22 =>
 wtS x9 true (kFA 0 x17 fun x36 =>
 j22 x36 h18) (j22 u h18)) fun j19 =>
 wtS x9 true (kFA 123 x2 fun x37 =>
 j19 x37 h15) (j19 u h15)) fun j16 =>
 wtS x9 true (kL1 x11 h12 fun x38 =>
 j16 x38 h12) (j16 u h12)) fun j13 =>
 wtS x9 true (kFA 1 x2 fun x39 =>
 j13 x39 h10) (j13 u h10)) (kEqI false x5 (qb 16) fun x40 =>
 brS x40 (kFA 123 x2 fun x41 =>
 kLA 6 x41 h3 fun x42 =>
 kCall X 33 [x42] h3 fun x43 h44 =>
 jc (α := JT) (fun x45 h46 =>
 jc (α := JT) (fun x48 h49 =>
 jc (α := JT) (fun x51 h52 =>
 jc (α := JT) (fun x54 h55 =>
 jc (α := JT) (fun x57 h58 =>
 jc (α := JT) (fun x60 h61 =>
 jc (α := JT) (fun x63 h64 =>
 kPick x43 x63 qf fun x66 =>
 some (x66, h64)) fun j65 =>
 wtS x43 true (kEqI false x48 x60 fun x67 =>
 j65 x67 h61) (j65 u h61)) fun j62 =>
 wtS x43 true (kBin .add (qb 20) x57 fun x68 =>
 j62 x68 h58) (j62 u h58)) fun j59 =>
 wtS x43 true (kL1 x54 h55 fun x69 =>
 j59 x69 h55) (j59 u h55)) fun j56 =>
 wtS x43 true (kFA 0 x51 fun x70 =>
 j56 x70 h52) (j56 u h52)) fun j53 =>
 wtS x43 true (kFA 123 x2 fun x71 =>
 j53 x71 h49) (j53 u h49)) fun j50 =>
 wtS x43 true (kL1 x45 h46 fun x72 =>
 j50 x72 h46) (j50 u h46)) fun j47 =>
 wtS x43 true (kFA 2 x2 fun x73 =>
 j47 x73 h44) (j47 u h44)) (kFA 123 x2 fun x74 =>
 kLA 6 x74 h3 fun x75 =>
 kCall X 33 [x75] h3 fun x76 h77 =>
 jc (α := JT) (fun x78 h79 =>
 jc (α := JT) (fun x81 h82 =>
 jc (α := JT) (fun x84 h85 =>
 jc (α := JT) (fun x87 h88 =>
 kPick x76 x87 qf fun x90 =>
 some (x90, h88)) fun j89 =>
 wtS x76 true (kEqI false x84 (qb 5) fun x91 =>
 j89 x91 h85) (j89 u h85)) fun j86 =>
 wtS x76 true (kL1 x81 h82 fun x92 =>
 j86 x92 h82) (j86 u h82)) fun j83 =>
 wtS x76 true (kFA 2 x78 fun x93 =>
 j83 x93 h79) (j83 u h79)) fun j80 =>
 wtS x76 true (kFA 123 x2 fun x94 =>
 j80 x94 h77) (j80 u h77))))
theorem p81_ok (k : Nat) : p81 k = funcS k 1 lit81 := by kernel_rfl
def p83 (_ : Nat) : CtxK → List V → TH → R := fun X => ap 1 (fun x0 h1 =>
 kCall X 124 [x0] h1 fun x2 h3 =>
 kCall X 61 [x2] h3 fun _ h5 =>
 some (x2, h5))
theorem p83_ok (k : Nat) : p83 k = funcS k 1 lit83 := by kernel_rfl
def p84 (_ : Nat) : CtxK → List V → TH → R := fun _ => ap 1 (fun x0 h1 =>
 kNew (V.cellsR x0) h1 fun x2 h3 =>
 some ((.fn 125 [] [x2]), h3))
theorem p84_ok (k : Nat) : p84 k = funcS k 1 lit84 := by kernel_rfl
def p88 (_ : Nat) : CtxK → List V → TH → R := fun X => ap 1 (fun x0 h1 =>
 kNew (V.cellsR x0) h1 fun x2 h3 =>
 kLA 16 x2 h3 fun x4 =>
 kCall X 127 [x4, (.fn 128 [] [])] h3 fun x5 h6 =>
 some (x5, h6))
theorem p88_ok (k : Nat) : p88 k = funcS k 1 lit88 := by kernel_rfl
def p90 (_ : Nat) : CtxK → List V → TH → R := fun X => ap 2 (fun x0 x1 h2 =>
 kNew (V.cellsR x0) h2 fun x3 h4 =>
 kNew (V.cellsR x1) h4 fun x5 h6 =>
 kNew zr5 h6 fun x7 h8 =>
 kLA 49 x3 h8 fun x9 =>
 kCall X 50 [x9] h8 fun x10 h11 =>
 kNot x10 fun x12 =>
 jc (α := JT) (fun x13 h14 =>
 jc (α := JT) (fun x16 h17 =>
 jc (α := JT) (fun x19 h20 =>
 kPick x12 qt x19 fun x22 =>
 brS x22 (kB zr5 [] fun x23 =>
 kSA 52 x7 x23 h20 fun _ h25 =>
 rsS [.cell 4 true 52] [x0, x1, x3, x5, x7, u, u, x9, x10, x12, x12, x13, x16, x19, x22, x23, u, u, u, u, u, u, u, u, u, u, u, u, u, u, u, u, u, u, u, u, u, u, u, u, u, u, u, u, u, u, u, u, u, u, u] h25) (kLA 49 x3 h20 fun x26 =>
 kNew zr0 h20 fun x27 h28 =>
 kSA 49 x27 x26 h28 fun _ h30 =>
 kFA 0 x5 fun x31 =>
 kL1 x31 h30 fun x32 =>
 kFA 0 x27 fun x33 =>
 kS1 x33 x32 h30 fun _ h35 =>
 kLA 49 x27 h35 fun x36 =>
 kLA 49 x5 h35 fun x37 =>
 kCall X 15 [x36, x37] h35 fun x38 h39 =>
 brS x38 (kLA 49 x5 h39 fun x40 =>
 kCall X 129 [x40] h39 fun x41 h42 =>
 kB zr5 [(0, 1, (qi 0)), (3, 49, x41)] fun x43 =>
 kSA 52 x7 x43 h42 fun _ h45 =>
 rsS [.cell 4 true 52] [x0, x1, x3, x5, x7, x27, u, x9, x10, x12, x12, x13, x16, x19, x22, u, x26, x31, x32, x33, x38, x36, x37, x38, x40, x41, x43, u, u, u, u, u, u, u, u, u, u, u, u, u, u, u, u, u, u, u, u, u, u, u, u] h45) (kLA 49 x3 h39 fun x46 =>
 kLA 49 x5 h39 fun x47 =>
 kCall X 130 [x46, x47] h39 fun x48 h49 =>
 kNot x48 fun x50 =>
 brS x50 (kLA 49 x5 h49 fun x51 =>
 kCall X 36 [x51] h49 fun x52 h53 =>
 kB zr5 [(0, 1, (qi 2)), (3, 49, x52)] fun x54 =>
 kSA 52 x7 x54 h53 fun _ h56 =>
 rsS [.cell 4 true 52] [x0, x1, x3, x5, x7, x27, u, x9, x10, x12, x12, x13, x16, x19, x22, u, x26, x31, x32, x33, x38, x36, x37, x38, u, u, u, x50, x46, x47, x48, x50, x51, x52, x54, u, u, u, u, u, u, u, u, u, u, u, u, u, u, u, u] h56) (kLA 49 x3 h49 fun x57 =>
 kLA 49 x5 h49 fun x58 =>
 kCall X 131 [x57, x58] h49 fun x59 h60 =>
 kFA 48 x5 fun x61 =>
 kL1 x61 h60 fun x64 =>
 kFA 40 x5 fun x65 =>
 kFA 1 x65 fun x66 =>
 kL1 x66 h60 fun x69 =>
 kBin .sub x59 x69 fun x70 =>
 kP (sliceE 8 x64 (some x70) none) fun x71 =>
 kLA 49 x5 h60 fun x74 =>
 kCall X 94 [x71] h60 fun x75 h76 =>
 kCall X 129 [x74] h76 fun x77 h78 =>
 kB zr5 [(0, 1, (qi 1)), (1, 1, x59), (2, 1, x75), (3, 49, x77)] fun x79 =>
 kSA 52 x7 x79 h78 fun _ h81 =>
 dokS [h60, h76, h78, h81] ((fun h72 => kLA 49 x5 h72 fun x73 =>
 some (x73, h72), x74, 0, 1) :: []) (rsS [.cell 4 true 52] [x0, x1, x3, x5, x7, x27, x59, x9, x10, x12, x12, x13, x16, x19, x22, u, x26, x31, x32, x33, x38, x36, x37, x38, u, u, u, x50, x46, x47, x48, x50, u, u, u, x57, x58, x59, x59, x61, x64, x59, x65, x66, x69, x70, x71, x75, x74, x77, x79] h81))))) fun j21 =>
 wtS x12 false (kNot x16 fun x82 =>
 j21 x82 h17) (j21 u h17)) fun j18 =>
 wtS x12 false (kCall X 50 [x13] h14 fun x83 h84 =>
 j18 x83 h84) (j18 u h14)) fun j15 =>
 wtS x12 false (kLA 49 x5 h11 fun x85 =>
 j15 x85 h11) (j15 u h11))
theorem p90_ok (k : Nat) : p90 k = funcS k 2 lit90 := by kernel_rfl
def p91 (k : Nat) : CtxK → List V → TH → R := fun X => ap 1 (fun x0 h1 =>
 kNew (V.cellsR x0) h1 fun x2 h3 =>
 kFA 0 x2 fun x4 =>
 kLA 30 x4 h3 fun x5 =>
 lp (α := Cur 42) (zN 42) (fun n49 _ x7 _ _ _ _ _ _ x14 x15 _ _ _ _ _ _ _ _ _ _ _ _ _ _ _ _ _ _ _ _ _ _ _ _ _ _ _ _ _ _ _ _ h48 =>
 kBin .lss x15 (qi 6) fun x50 =>
 brS x50 (kP (indexE (some (6, 5, true)) x14 x15) fun x51 =>
 kNew [qf, qs, qs, qs, qs] h48 fun x52 h53 =>
 kSA 5 x52 x51 h53 fun _ h55 =>
 kLA 5 x52 h55 fun x56 =>
 kCall X 132 [x56] h55 fun x57 h58 =>
 kNot x57 fun x59 =>
 brS x59 (some (qf, h58)) (kBin .add x15 (qi 1) fun x60 =>
 n49 u x7 u u u u u u x14 x60 u u u u u u u u u u u u u u u u u u u u u u u u u u u u u u u u h58)) (kFA 30 x7 fun x61 =>
 kLA 9 x61 h48 fun x62 =>
 lp (α := Cur 42) (zN 42) (fun n106 _ _ _ _ _ _ _ _ _ _ _ _ _ _ _ _ _ x80 x81 _ _ _ _ _ _ _ _ _ _ _ _ _ _ _ _ _ _ _ _ _ _ _ h105 =>
 kBin .lss x81 (qi 3) fun x107 =>
 brS x107 (kP (indexE (some (3, 3, true)) x80 x81) fun x108 =>
 kNew [(qw 0), (qb 0), qs] h105 fun x109 h110 =>
 kSA 3 x109 x108 h110 fun _ h112 =>
 kFA 1 x109 fun x113 =>
 kFA 1 x113 fun x114 =>
 kL1 x114 h112 fun x115 =>
 kEq' true (.leaf .str) x115 qs fun x116 =>
 jc (α := JT) (fun x117 h118 =>
 jc (α := JT) (fun x120 h121 =>
 jc (α := JT) (fun x123 h124 =>
 jc (α := JT) (fun x126 h127 =>
 kPick x116 qt x126 fun x129 =>
 jc (α := JT) (fun x130 h131 =>
 jc (α := JT) (fun x133 h134 =>
 jc (α := JT) (fun x136 h137 =>
 jc (α := JT) (fun x139 h140 =>
 jc (α := JT) (fun x142 h143 =>
 jc (α := JT) (fun x145 h146 =>
 jc (α := JT) (fun x148 h149 =>
 jc (α := JT) (fun x151 h152 =>
 kPick x129 qt x151 fun x154 =>
 brS x154 (some (qf, h152)) (kBin .add x81 (qi 1) fun x155 =>
 n106 u u u u u u u u u u u u u u u u u x80 x155 u u u u u u u u u u u u u u u u u u u u u u u h152)) fun j153 =>
 wtS x129 false (kPick x139 x148 qf fun x156 =>
 j153 x156 h149) (j153 u h149)) fun j150 =>
 wtS x139 true (kEq' true (.agg [.int, .int, .str]) x142 x145 fun x157 =>
 j150 x157 h146) (j150 u h146)) fun j147 =>
 wtS x139 true (kB [(qw 0), (qb 0), qs] [] fun x158 =>
 j147 x158 h143) (j147 u h143)) fun j144 =>
 wtS x139 true (kLA 3 x109 h140 fun x159 =>
 j144 x159 h140) (j144 u h140)) fun j141 =>
 wtS x129 false (j141 x136 h137) (j141 u h137)) fun j138 =>
 wtS x129 false (kEqI false x133 (qw 0) fun x160 =>
 j138 x160 h134) (j138 u h134)) fun j135 =>
 wtS x129 false (kL1 x130 h131 fun x161 =>
 j135 x161 h131) (j135 u h131)) fun j132 =>
 wtS x129 false (kFA 0 x109 fun x162 =>
 j132 x162 h127) (j132 u h127)) fun j128 =>
 wtS x116 false (kBin .gtr x123 (qb 3) fun x163 =>
 j128 x163 h124) (j128 u h124)) fun j125 =>
 wtS x116 false (kL1 x120 h121 fun x164 =>
 j125 x164 h121) (j125 u h121)) fun j122 =>
 wtS x116 false (kFA 0 x117 fun x165 =>
 j122 x165 h118) (j122 u h118)) fun j119 =>
 wtS x116 false (kFA 1 x109 fun x166 =>
 j119 x166 h112) (j119 u h112)) (some (qt, h105))) k u u u u u u u u u u u u u u u u u x62 (qi 0) u u u u u u u u u u u u u u u u u u u u u u u h48)) k u x2 u u u u u u x5 (qi 0) u u u u u u u u u u u u u u u u u u u u u u u u u u u u u u u u h3)
theorem p91_ok (k : Nat) : p91 k = funcS k 1 lit91 := by kernel_rfl
def p103 (_ : Nat) : CtxK → List V → TH → R := fun X => ap 1 (fun x0 h1 =>
 brS qf (kConv .u32 x0 fun x2 =>
 kCall X 153 [x2] h1 fun x3 h4 =>
 some (x3, h4)) (kCall X 154 [x0] h1 fun x5 h6 =>
 some (x5, h6)))
theorem p103_ok (k : Nat) : p103 k = funcS k 1 lit103 := by kernel_rfl
def p107 (_ : Nat) : CtxK → List V → TH → R := fun X => ap 3 (fun x0 x1 x2 h3 =>
 kNew (V.cellsR x2) h3 fun x4 h5 =>
 kNilc x0 fun x6 =>
 kFA 3 x6 fun x7 =>
 kFA 0 x7 fun x8 =>
 kL1 x8 h5 fun x11 =>
 kNilc x0 fun x12 =>
 kFA 52 x12 fun x13 =>
 kL1 x13 h5 fun x16 =>
 kEqI true x11 x16 fun x17 =>
 dokS [h5] [] (brS x17 (some (.nils, h5)) (kLA 131 x4 h5 fun x18 =>
 kCall X 104 [x18] h5 fun x19 h20 =>
 kCall X 89 [x0, x1, x19] h20 fun x21 h22 =>
 kNew zr1 h22 fun x23 h24 =>
 kSA 131 x23 x21 h24 fun _ h26 =>
 kCall X 109 [x0] h26 fun x27 h28 =>
 kFA 122 x23 fun x29 =>
 kS1 x29 x27 h28 fun _ h31 =>
 kLA 131 x23 h31 fun x32 =>
 kBS 131 zr1 1 [(0, 131, x32)] h31 fun x33 h34 =>
 some (x33, h34))))
theorem p107_ok (k : Nat) : p107 k = funcS k 3 lit107 := by kernel_rfl
def p108 (_ : Nat) : CtxK → List V → TH → R := fun X => ap 3 (fun x0 x1 x2 h3 =>
 kNew (V.cellsR x2) h3 fun x4 h5 =>
 kNilc x0 fun x6 =>
 kFA 1 x6 fun x7 =>
 kL1 x7 h5 fun x10 =>
 kEqI false x10 x1 fun x11 =>
 jc (α := JT) (fun x12 h13 =>
 jc (α := JT) (fun x15 h16 =>
 jc (α := JT) (fun x18 h19 =>
 jc (α := V → TH → PD → R) (fun x23 h24 d25 =>
 jc (α := V → TH → PD → R) (fun x29 h30 d31 =>
 jc (α := JT) (fun x33 h34 =>
 jc (α := JT) (fun x36 h37 =>
 kPick x11 x36 qf fun x39 =>
 dokS [h30, h34, h37] d31 (some (x39, h37))) fun j38 =>
 wtS x11 true (kCall X 54 [x23, x33] h34 fun x40 h41 =>
 j38 x40 h41) (j38 u h34)) fun j35 =>
 wtS x11 true (kCall X 104 [x29] h30 fun x42 h43 =>
 j35 x42 h43) (j35 u h30)) fun j32 =>
 wtS x11 true (kLA 131 x4 h24 fun x44 =>
 j32 x44 h24 d25) (j32 u h24 d25)) fun j26 =>
 wtS x11 true (kL1 x18 h19 fun x45 =>
 j26 x45 h19 ((fun h21 => kL1 x18 h21 fun x22 =>
 some (x22, h21), x45, 0, 1) :: [])) (j26 u h19 [])) fun j20 =>
 wtS x11 true (kFA 53 x15 fun x46 =>
 j20 x46 h16) (j20 u h16)) fun j17 =>
 wtS x11 true (kNilc x12 fun x47 =>
 j17 x47 h13) (j17 u h13)) fun j14 =>
 wtS x11 true (j14 x0 h5) (j14 u h5))
theorem p108_ok (k : Nat) : p108 k = funcS k 3 lit108 := by kernel_rfl
def p116 (_ : Nat) : CtxK → List V → TH → R := fun _ => ap 1 (fun x0 h1 =>
 kBin .lss x0 (qb 3) fun x2 =>
 some (x2, h1))
theorem p116_ok (k : Nat) : p116 k = funcS k 1 lit116 := by kernel_rfl
def p117 (_ : Nat) : CtxK → List V → TH → R := fun _ => ap 1 (fun x0 h1 =>
 kBin .geq x0 (qb 10) fun x2 =>
 jc (α := JT) (fun x3 h4 =>
 jc (α := JT) (fun x6 h7 =>
 kPick x2 x6 qf fun x9 =>
 some (x9, h7)) fun j8 =>
 wtS x2 true (kBin .lss x3 (qb 15) fun x10 =>
 j8 x10 h4) (j8 u h4)) fun j5 =>
 wtS x2 true (j5 x0 h1) (j5 u h1))
theorem p117_ok (k : Nat) : p117 k = funcS k 1 lit117 := by kernel_rfl
def p120 (_ : Nat) : CtxK → List V → TH → R := fun X => ap 2 (fun x0 x1 h2 =>
 kCall X 163 [x0, x1] h2 fun x3 h4 =>
 kBin .geq x3 (qi 0) fun x5 =>
 some (x5, h4))
theorem p120_ok (k : Nat) : p120 k = funcS k 2 lit120 := by kernel_rfl
def p122 (_ : Nat) : CtxK → List V → TH → R := fun _ => ap 1 (fun x0 h1 =>
 kNew (V.cellsR x0) h1 fun x2 h3 =>
 kFA 0 x2 fun x4 =>
 kL1 x4 h3 fun x5 =>
 kEqI false x5 (qb 1) fun x6 =>
 jc (α := Cur 38) (fun _ x8 _ _ x11 x12 _ _ _ _ _ _ _ _ _ _ _ _ _ _ _ _ _ _ _ _ _ _ _ _ _ _ _ _ _ _ _ _ h45 =>
 brS x12 (kFA 1 x8 fun x47 =>
 kL1 x47 h45 fun x48 =>
 kBin .lss x48 (qb 5) fun x49 =>
 jc (α := JT) (fun x50 h51 =>
 jc (α := JT) (fun x53 h54 =>
 jc (α := JT) (fun x56 h57 =>
 jc (α := JT) (fun x59 h60 =>
 jc (α := JT) (fun x62 h63 =>
 jc (α := JT) (fun x65 h66 =>
 jc (α := JT) (fun x68 h69 =>
 kPick x49 x68 qf fun x71 =>
 some (x71, h69)) fun j70 =>
 wtS x49 true (kEq' false (.agg [.int, .int, .int]) x50 x65 fun x72 =>
 j70 x72 h66) (j70 u h66)) fun j67 =>
 wtS x49 true (kB [(qb 0), (qb 0), (qi 0)] [(0, 1, x56), (1, 1, x62)] fun x73 =>
 j67 x73 h63) (j67 u h63)) fun j64 =>
 wtS x49 true (kL1 x59 h60 fun x74 =>
 j64 x74 h60) (j64 u h60)) fun j61 =>
 wtS x49 true (kFA 1 x8 fun x75 =>
 j61 x75 h57) (j61 u h57)) fun j58 =>
 wtS x49 true (kL1 x53 h54 fun x76 =>
 j58 x76 h54) (j58 u h54)) fun j55 =>
 wtS x49 true (kFA 0 x8 fun x77 =>
 j55 x77 h51) (j55 u h51)) fun j52 =>
 wtS x49 true (kLA 3 x8 h45 fun x78 =>
 j52 x78 h45) (j52 u h45)) (kEqI false x11 (qb 3) fun x79 =>
 brS x79 (kFA 1 x8 fun x80 =>
 kL1 x80 h45 fun x81 =>
 kBin .lss x81 (qb 5) fun x82 =>
 jc (α := JT) (fun x83 h84 =>
 jc (α := JT) (fun x86 h87 =>
 jc (α := JT) (fun x89 h90 =>
 kPick x82 x89 qf fun x92 =>
 jc (α := JT) (fun x93 h94 =>
 jc (α := JT) (fun x96 h97 =>
 jc (α := JT) (fun x99 h100 =>
 kPick x92 x99 qf fun x102 =>
 some (x102, h100)) fun j101 =>
 wtS x92 true (kBin .leq x96 (qi 16) fun x103 =>
 j101 x103 h97) (j101 u h97)) fun j98 =>
 wtS x92 true (kL1 x93 h94 fun x104 =>
 j98 x104 h94) (j98 u h94)) fun j95 =>
 wtS x92 true (kFA 2 x8 fun x105 =>
 j95 x105 h90) (j95 u h90)) fun j91 =>
 wtS x82 true (kBin .geq x86 (qi 0) fun x106 =>
 j91 x106 h87) (j91 u h87)) fun j88 =>
 wtS x82 true (kL1 x83 h84 fun x107 =>
 j88 x107 h84) (j88 u h84)) fun j85 =>
 wtS x82 true (kFA 2 x8 fun x108 =>
 j85 x108 h45) (j85 u h45)) (kLA 3 x8 h45 fun x109 =>
 kB [(qb 0), (qb 0), (qi 0)] [(0, 1, (qb 4))] fun x110 =>
 kEq' false (.agg [.int, .int, .int]) x109 x110 fun x111 =>
 some (x111, h45)))) fun j46 =>
 brS x6 (j46 u x2 u u x5 x6 u u u u u u u u u u u u u u u u u u u u u u u u u u u u u u u u h3) (kEqI false x5 (qb 2) fun x112 =>
 j46 u x2 u u x5 x112 u u u u u u u u u u u u u u u u u u u u u u u u u u u u u u u u h3))
theorem p122_ok (k : Nat) : p122 k = funcS k 1 lit122 := by kernel_rfl
def p123 (_ : Nat) : CtxK → List V → TH → R := fun X => ap 1 (fun x0 h1 =>
 kNew (V.cellsR x0) h1 fun x2 h3 =>
 kLA 49 x2 h3 fun x4 =>
 kCall X 50 [x4] h3 fun x5 h6 =>
 jc (α := JT) (fun x7 h8 =>
 jc (α := JT) (fun x10 h11 =>
 jc (α := JT) (fun x13 h14 =>
 jc (α := JT) (fun x16 h17 =>
 jc (α := JT) (fun x19 h20 =>
 jc (α := JT) (fun x22 h23 =>
 jc (α := JT) (fun x25 h26 =>
 kPick x5 x25 qf fun x28 =>
 some (x28, h26)) fun j27 =>
 wtS x5 true (kCall X 15 [x7, x22] h23 fun x29 h30 =>
 j27 x29 h30) (j27 u h23)) fun j24 =>
 wtS x5 true (kB zr0 [(0, 1, x13), (40, 8, x19)] fun x31 =>
 j24 x31 h20) (j24 u h20)) fun j21 =>
 wtS x5 true (kLA 8 x16 h17 fun x32 =>
 j21 x32 h17) (j21 u h17)) fun j18 =>
 wtS x5 true (kFA 40 x2 fun x33 =>
 j18 x33 h14) (j18 u h14)) fun j15 =>
 wtS x5 true (kL1 x10 h11 fun x34 =>
 j15 x34 h11) (j15 u h11)) fun j12 =>
 wtS x5 true (kFA 0 x2 fun x35 =>
 j12 x35 h8) (j12 u h8)) fun j9 =>
 wtS x5 true (kLA 49 x2 h6 fun x36 =>
 j9 x36 h6) (j9 u h6))
theorem p123_ok (k : Nat) : p123 k = funcS k 1 lit123 := by kernel_rfl
def p126 (k : Nat) : CtxK → List V → TH → R := fun X => ap 2 (fun x0 x1 h2 =>
 kLen x0 fun x3 =>
 lp (α := Cur 19) (zN 19) (fun n24 x4 x5 _ _ _ _ _ x11 x12 _ _ _ _ _ _ _ _ _ _ h23 =>
 kBin .lss x12 x11 fun x25 =>
 brS x25 (kIS 1 x4 x12 fun x26 =>
 kL1 x26 h23 fun x27 =>
 kCv X x5 [x27] h23 fun x28 h29 =>
 brS x28 (some (x12, h29)) (kBin .add x12 (qi 1) fun x30 =>
 n24 x4 x5 u u u u u x11 x30 u u u u u u u u u u h29)) (some ((.int .i64 (-1)), h23))) k x0 x1 u u u u u x3 (qi 0) u u u u u u u u u u h2)
theorem p126_ok (k : Nat) : p126 k = funcS k 2 lit126 := by kernel_rfl
def p132 (k : Nat) : CtxK → List V → TH → R := fun _ => ap 1 (fun x0 h1 =>
 kNew (V.cellsR x0) h1 fun x2 h3 =>
 kFA 0 x2 fun x4 =>
 kL1 x4 h3 fun x5 =>
 kNot x5 fun x6 =>
 brS x6 (kLA 5 x2 h3 fun x7 =>
 kB [qf, qs, qs, qs, qs] [] fun x8 =>
 kEq' false (.agg [.bool, .str, .str, .str, .str]) x7 x8 fun x9 =>
 some (x9, h3)) (kFA 2 x2 fun x10 =>
 kLA 3 x10 h3 fun x11 =>
 lp (α := Cur 24) (zN 24) (fun n37 _ x13 _ _ _ _ _ _ _ _ _ _ x24 x25 _ _ _ _ _ _ _ _ _ _ h36 =>
 kBin .lss x25 (qi 3) fun x38 =>
 brS x38 (kIx 3 x24 x25 fun x39 =>
 kP (lenV true x39) fun x40 =>
 kBin .gtr x40 (qi 16) fun x41 =>
 brS x41 (some (qf, h36)) (kBin .add x25 (qi 1) fun x42 =>
 n37 u x13 u u u u u u u u u u x24 x42 u u u u u u u u u u h36)) (kFA 1 x13 fun x43 =>
 kL1 x43 h36 fun x44 =>
 kP (lenV true x44) fun x45 =>
 kBin .leq x45 (qi 16) fun x46 =>
 some (x46, h36))) k u x2 u u u u u u u u u u x11 (qi 0) u u u u u u u u u u h3))
theorem p132_ok (k : Nat) : p132 k = funcS k 1 lit132 := by kernel_rfl
def p138 (_ : Nat) : CtxK → List V → TH → R := fun X => ap 2 (fun x0 x1 h2 =>
 kCall X 175 [x0, x1] h2 fun x3 h4 =>
 kBin .geq x3 (qi 0) fun x5 =>
 some (x5, h4))
theorem p138_ok (k : Nat) : p138 k = funcS k 2 lit138 := by kernel_rfl
def p142 (k : Nat) : CtxK → List V → TH → R := fun X => ap 2 (fun x0 x1 h2 =>
 kNew (V.cellsR x0) h2 fun x3 h4 =>
 kLA 16 x3 h4 fun x5 =>
 kCall X 141 [x5] h4 fun x6 h7 =>
 kNot x6 fun x8 =>
 jc (α := JT) (fun x9 h10 =>
 jc (α := JT) (fun x12 h13 =>
 kPick x8 qt x12 fun x15 =>
 brS x15 (some (.nils, h13)) (kLA 16 x3 h13 fun x18 =>
 kLA 16 x3 h13 fun x21 =>
 kCall X 176 [x21] h13 fun x22 h23 =>
 kB [(qw 0), qf, (qi 0), (qb 0), qf, (qi 0), (qb 0), qf, (qi 0), (qb 0), qf, (qi 0), (qb 0), qf, (qi 0), (qb 0), (qb 0), .nils, .nils] [(0, 16, x18), (16, 1, x1), (17, 1, x22)] fun x24 =>
 kNew (V.cellsR x24) h23 fun x25 h26 =>
 dokS [h13, h26] ((fun h16 => kLA 16 x3 h16 fun x17 =>
 some (x17, h16), x18, 0, 1) :: []) (lp (α := Cur 39) (zN 39) (fun n67 _ _ _ _ _ x32 x33 _ _ _ _ _ _ _ _ _ _ _ _ _ _ _ _ _ _ _ _ _ _ _ _ _ _ _ _ _ _ _ _ h66 =>
 kBin .lss x33 (qi 3) fun x68 =>
 jc (α := JT) (fun x69 h70 =>
 jc (α := JT) (fun x72 h73 =>
 jc (α := JT) (fun x75 h76 =>
 jc (α := JT) (fun x78 h79 =>
 jc (α := JT) (fun x81 h82 =>
 jc (α := JT) (fun x84 h85 =>
 kPick x68 x84 qf fun x87 =>
 brS x87 (kCall X 177 [x32, x33] h85 fun _ h89 =>
 kBin .add x33 (qi 1) fun x90 =>
 n67 u u u u u x32 x90 u u u u u u u u u u u u u u u u u u u u u u u u u u u u u u u u h89) (kNilc x32 fun x91 =>
 kFA 18 x91 fun x92 =>
 kL1 x92 h85 fun x93 =>
 some (x93, h85))) fun j86 =>
 wtS x68 true (kBin .gtr x81 (qi 0) fun x94 =>
 j86 x94 h82) (j86 u h82)) fun j83 =>
 wtS x68 true (kLen x78 fun x95 =>
 j83 x95 h79) (j83 u h79)) fun j80 =>
 wtS x68 true (kL1 x75 h76 fun x96 =>
 j80 x96 h76) (j80 u h76)) fun j77 =>
 wtS x68 true (kFA 17 x72 fun x97 =>
 j77 x97 h73) (j77 u h73)) fun j74 =>
 wtS x68 true (kNilc x69 fun x98 =>
 j74 x98 h70) (j74 u h70)) fun j71 =>
 wtS x68 true (j71 x32 h66) (j71 u h66)) k u u u u u x25 (qi 0) u u u u u u u u u u u u u u u u u u u u u u u u u u u u u u u u h26))) fun j14 =>
 wtS x8 false (kBin .geq x9 (qb 4) fun x99 =>
 j14 x99 h10) (j14 u h10)) fun j11 =>
 wtS x8 false (j11 x1 h7) (j11 u h7))
theorem p142_ok (k : Nat) : p142 k = funcS k 2 lit142 := by kernel_rfl
def p163 (k : Nat) : CtxK → List V → TH → R := fun _ => ap 2 (fun x0 x1 h2 =>
 kLen x0 fun x3 =>
 lp (α := Cur 19) (zN 19) (fun n24 x4 x5 _ _ _ _ _ x11 x12 _ _ _ _ _ _ _ _ _ _ h23 =>
 kBin .lss x12 x11 fun x25 =>
 brS x25 (kIS 1 x4 x12 fun x26 =>
 kL1 x26 h23 fun x27 =>
 kEq' false (.leaf .bool) x5 x27 fun x28 =>
 brS x28 (some (x12, h23)) (kBin .add x12 (qi 1) fun x29 =>
 n24 x4 x5 u u u u u x11 x29 u u u u u u u u u u h23)) (some ((.int .i64 (-1)), h23))) k x0 x1 u u u u u x3 (qi 0) u u u u u u u u u u h2)
theorem p163_ok (k : Nat) : p163 k = funcS k 2 lit163 := by kernel_rfl
def p167 (_ : Nat) : CtxK → List V → TH → R := fun X => ap 2 (fun x0 x1 h2 =>
 kNew (V.cellsR x1) h2 fun x3 h4 =>
 kFA 4 x3 fun x5 =>
 kL1 x5 h4 fun x6 =>
 kConv .i64 x6 fun x7 =>
 kFA 5 x3 fun x8 =>
 kL1 x8 h4 fun x9 =>
 kP (lenV true x9) fun x10 =>
 kBin .add x7 x10 fun x11 =>
 kBin .gtr x11 (qi 16) fun x12 =>
 brS x12 (some ((qb 2), h4)) (kNilc x0 fun x13 =>
 kFA 0 x13 fun x14 =>
 kFA 1 x14 fun x15 =>
 kL1 x15 h4 fun x16 =>
 kCall X 191 [x16, x11] h4 fun x17 h18 =>
 kNilc x0 fun x19 =>
 kFA 0 x19 fun x20 =>
 kFA 0 x20 fun x21 =>
 kS1 x21 qt h18 fun _ h23 =>
 kFA 4 x3 fun x24 =>
 kL1 x24 h23 fun x27 =>
 kP (subsE x17 none (some x27)) fun x28 =>
 kFA 5 x3 fun x29 =>
 kL1 x29 h23 fun x32 =>
 kBin .add x28 x32 fun x33 =>
 kP (subsE x17 (some x11) none) fun x34 =>
 kBin .add x33 x34 fun x35 =>
 kNilc x0 fun x36 =>
 kFA 0 x36 fun x37 =>
 kFA 1 x37 fun x38 =>
 kS1 x38 x35 h23 fun _ h40 =>
 dokS [h23, h40] [] (some ((qb 0), h40))))
theorem p167_ok (k : Nat) : p167 k = funcS k 2 lit167 := by kernel_rfl
def p173 (k : Nat) : CtxK → List V → TH → R := fun X => ap 2 (fun x0 x1 h2 =>
 kCall X 194 [x0, x1] h2 fun x3 h4 =>
 kEqI false x3 (.int .i64 (-1)) fun x5 =>
 brS x5 (some (x0, h4)) (kBin .add x3 (qi 1) fun x6 =>
 lp (α := Cur 42) (zN 42) (fun n50 x7 x8 _ _ _ x12 x13 _ _ _ _ _ _ _ _ _ _ _ _ _ _ _ _ _ _ _ _ _ _ _ _ _ _ _ _ _ _ _ _ _ _ _ h49 =>
 kLen x7 fun x51 =>
 kBin .lss x13 x51 fun x52 =>
 brS x52 (kIS 2 x7 x13 fun x53 =>
 kLA 2 x53 h49 fun x54 =>
 kNew [(qw 0), .nils] h49 fun x55 h56 =>
 kSA 2 x55 x54 h56 fun _ h58 =>
 kLA 2 x55 h58 fun x59 =>
 kCv X x8 [x59] h58 fun x60 h61 =>
 kNot x60 fun x62 =>
 jc (α := Cur 42) (fun x63 x64 _ _ _ x68 x69 _ _ _ _ _ _ _ _ _ _ _ _ _ _ _ _ _ _ _ _ _ _ _ _ _ _ _ _ _ _ _ _ _ _ _ h105 =>
 kBin .add x69 (qi 1) fun x107 =>
 n50 x63 x64 u u u x68 x107 u u u u u u u u u u u u u u u u u u u u u u u u u u u u u u u u u u u h105) fun j106 =>
 brS x62 (kLA 2 x55 h61 fun x108 =>
 kIS 2 x7 x12 fun x109 =>
 kSA 2 x109 x108 h61 fun _ h111 =>
 kBin .add x12 (qi 1) fun x112 =>
 j106 x7 x8 u u u x112 x13 u u u u u u u u u u u u u u u u u u u u u u u u u u u u u u u u u u u h111) (j106 x7 x8 u u u x12 x13 u u u u u u u u u u u u u u u u u u u u u u u u u u u u u u u u u u u h61)) (kP (sliceE 2 x7 (some x12) none) fun x113 =>
 kCl [(qw 0), .nils] 2 x113 h49 fun _ h115 =>
 kP (sliceE 2 x7 none (some x12)) fun x116 =>
 some (x116, h115))) k x0 x1 u u u x3 x6 u u u u u u u u u u u u u u u u u u u u u u u u u u u u u u u u u u u h4))
theorem p173_ok (k : Nat) : p173 k = funcS k 2 lit173 := by kernel_rfl
def p177 (k : Nat) : CtxK → List V → TH → R := fun X => ap 2 (fun x0 x1 h2 =>
 lp (α := Cur 31) (zN 31) (fun n35 x3 x4 _ _ x7 _ _ x10 _ _ _ _ _ _ _ _ _ _ _ _ _ _ _ _ _ _ _ _ _ _ _ h34 =>
 kBin .lss x10 (qi 20) fun x36 =>
 brS x36 (kBin .mul x10 (qi 3) fun x37 =>
 kBin .add x4 x37 fun x38 =>
 kCv X x7 [x3, x38] h34 fun x39 h40 =>
 kCall X 197 [x3, x39] h40 fun x41 h42 =>
 brS x41 (kNilc x3 fun x43 =>
 kFA 18 x43 fun x44 =>
 kL1 x44 h42 fun x45 =>
 kBS 1 [(qi 0)] 1 [(0, 1, x39)] h42 fun x46 h47 =>
 kAp 1 8 x45 x46 h47 fun x48 h49 =>
 kNilc x3 fun x50 =>
 kFA 18 x50 fun x51 =>
 kS1 x51 x48 h49 fun _ h53 =>
 some (.tup [], h53)) (kBin .add x10 (qi 1) fun x54 =>
 n35 x3 x4 u u x7 u u x54 u u u u u u u u u u u u u u u u u u u u u u u h42)) (some (.tup [], h34))) k x0 x1 u u (.fn 196 [] []) u u (qi 0) u u u u u u u u u u u u u u u u u u u u u u u h2)
theorem p177_ok (k : Nat) : p177 k = funcS k 2 lit177 := by kernel_rfl
def p200 (k : Nat) : CtxK → List V → TH → R := fun X => ap 2 (fun x0 x1 h2 =>
 kEqI false x1 (qi 0) fun x3 =>
 brS x3 (some (qs, h2)) (kEqI false x1 (qi 1) fun x4 =>
 brS x4 (some (x0, h2)) (kBin .lss x1 (qi 0) fun x5 =>
 jc (α := Cur 125) (fun x6 x7 _ _ _ _ _ _ _ _ _ _ _ _ _ _ _ _ _ _ _ _ _ _ _ _ _ _ _ _ _ _ _ _ _ _ _ _ _ _ _ _ _ _ _ _ _ _ _ _ _ _ _ _ _ _ _ _ _ _ _ _ _ _ _ _ _ _ _ _ _ _ _ _ _ _ _ _ _ _ _ _ _ _ _ _ _ _ _ _ _ _ _ _ _ _ _ _ _ _ _ _ _ _ _ _ _ _ _ _ _ _ _ _ _ _ _ _ _ _ _ _ _ _ _ h131 =>
 kP (lenV true x6) fun x133 =>
 kConv .u64 x133 fun x134 =>
 kConv .u64 x7 fun x135 =>
 kCall X 205 [x134, x135] h131 fun x136 h137 =>
 kExt x136 0 fun x138 =>
 kExt x136 1 fun x139 =>
 kBin .gtr x138 (.int .u64 0) fun x140 =>
 jc (α := JT) (fun x141 h142 =>
 jc (α := JT) (fun x144 h145 =>
 kPick x140 qt x144 fun x147 =>
 jc (α := Cur 125) (fun x148 _ _ _ _ _ x154 _ _ _ _ _ _ _ _ _ _ _ _ _ _ _ _ _ _ _ _ _ _ _ _ _ _ _ _ _ _ _ _ _ _ _ _ _ _ _ _ _ _ _ _ _ _ _ _ _ _ _ _ _ _ _ _ _ _ _ _ _ _ _ _ _ _ _ _ _ _ _ _ _ _ _ _ _ _ _ _ _ _ _ _ _ _ _ _ _ _ _ _ _ _ _ _ _ _ _ _ _ _ _ _ _ _ _ _ _ _ _ _ _ _ _ _ _ _ h273 =>
 kConv .i64 x154 fun x275 =>
 kP (lenV true x148) fun x276 =>
 kEqI false x276 (qi 0) fun x277 =>
 brS x277 (some (qs, h273)) (kP (indexE none x148 (qi 0)) fun x278 =>
 kEqI false x278 (qb 32) fun x279 =>
 jc (α := Cur 125) (fun x280 _ _ _ _ _ _ x287 _ _ _ _ _ _ _ _ _ _ _ _ _ _ _ _ _ _ _ _ _ _ _ _ _ _ _ _ _ _ _ _ _ _ _ x323 _ _ _ _ _ _ _ _ _ _ _ _ _ _ _ _ _ _ _ _ _ _ _ _ _ _ _ _ _ _ _ _ _ _ _ _ _ _ _ _ _ _ _ _ _ _ _ _ _ _ _ _ _ _ _ _ _ _ _ _ _ _ _ _ _ _ _ _ _ _ _ _ _ _ _ _ _ _ _ _ _ h405 =>
 jc (α := Cur 125) (fun x407 _ _ _ _ _ _ x414 _ _ _ _ _ _ _ _ _ _ _ _ _ _ _ _ _ _ _ _ _ _ _ _ _ _ _ _ _ _ _ _ _ _ _ _ _ _ _ _ _ _ _ _ _ _ _ _ _ _ _ _ _ _ _ _ _ _ _ _ _ _ _ _ _ _ _ _ _ _ _ _ _ _ _ _ _ _ _ _ _ _ _ _ _ _ _ _ _ _ _ _ _ _ _ _ _ _ _ _ _ _ _ _ _ _ _ _ _ _ _ _ _ _ _ _ _ h532 =>
 kBin .gtr x414 (qi 8192) fun x534 =>
 jc (α := Cur 125) (fun x535 _ _ _ _ _ _ x542 x543 _ _ _ _ _ _ _ _ _ _ _ _ _ _ _ _ _ _ _ _ _ _ _ _ _ _ _ _ _ _ _ _ _ _ _ _ _ _ _ _ _ _ _ _ _ _ _ _ _ _ _ _ _ _ _ _ _ _ _ _ _ _ _ _ _ _ _ _ _ _ _ _ _ _ _ _ _ _ _ _ _ _ _ _ _ _ _ _ _ _ _ _ _ _ _ _ _ _ _ _ _ _ _ _ _ _ _ _ _ _ _ _ _ _ _ _ h660 =>
 kNew [.nilptr, .nils] h660 fun x662 h663 =>
 kCall X 207 [x662, x542] h663 fun _ h665 =>
 kCall X 208 [x662, x535] h665 fun _ h667 =>
 lp (α := Cur 125) (zN 125) (fun _ _ _ _ _ _ _ _ x675 _ x677 _ _ _ _ _ _ _ _ _ _ _ _ _ _ _ _ _ _ _ _ _ _ _ _ _ _ _ _ _ _ _ _ _ _ _ _ _ _ _ _ _ _ _ _ _ _ _ _ _ _ _ _ _ _ _ _ _ _ _ _ _ _ _ _ _ _ _ _ _ _ _ _ _ _ _ _ _ _ _ _ _ _ _ _ _ _ _ _ _ _ _ _ _ _ _ _ _ _ _ _ _ _ _ _ _ _ _ _ _ _ _ _ _ _ _ h793 =>
 kCall X 209 [x677] h793 fun x795 h796 =>
 kBin .lss x795 x675 fun x797 =>
 brS x797 (kCall X 209 [x677] h796 fun x798 h799 =>
 kBin .sub x675 x798 fun _ =>
 kCall X 209 [x677] h799 fun _ _ =>
 none) (kCall X 210 [x677] h796 fun x803 h804 =>
 some (x803, h804))) k u u u u u u u x542 x543 x662 u u u u u u u u u u u u u u u u u u u u u u u u u u u u u u u u u u u u u u u u u u u u u u u u u u u u u u u u u u u u u u u u u u u u u u u u u u u u u u u u u u u u u u u u u u u u u u u u u u u u u u u u u u u u u u u u u u u h667) fun j661 =>
 brS x534 (kP (lenV true x407) fun x805 =>
 kBin .quo (qi 8192) x805 fun x806 =>
 kP (lenV true x407) fun x807 =>
 kBin .mul x806 x807 fun x808 =>
 kEqI false x808 (qi 0) fun x809 =>
 jc (α := Cur 125) (fun x810 _ _ _ _ _ _ x817 x818 _ _ _ _ _ _ _ _ _ _ _ _ _ _ _ _ _ _ _ _ _ _ _ _ _ _ _ _ _ _ _ _ _ _ _ _ _ _ _ _ _ _ _ _ _ _ _ _ _ _ _ _ _ _ _ _ _ _ _ _ _ _ _ _ _ _ _ _ _ _ _ _ _ _ _ _ _ _ _ _ _ _ _ _ _ _ _ _ _ _ _ _ _ _ _ _ _ _ _ _ _ _ _ _ _ _ _ _ _ _ _ _ _ _ _ _ h935 =>
 j661 x810 u u u u u u x817 x818 u u u u u u u u u u u u u u u u u u u u u u u u u u u u u u u u u u u u u u u u u u u u u u u u u u u u u u u u u u u u u u u u u u u u u u u u u u u u u u u u u u u u u u u u u u u u u u u u u u u u u u u u u u u u u u u u u u u u h935) fun j936 =>
 brS x809 (kP (lenV true x407) fun x937 =>
 j936 x407 u u u u u u x414 x937 u u u u u u u u u u u u u u u u u u u u u u u u u u u u u u u u u u u u u u u u u u u u u u u u u u u u u u u u u u u u u u u u u u u u u u u u u u u u u u u u u u u u u u u u u u u u u u u u u u u u u u u u u u u u u u u u u u u u h532) (j936 x407 u u u u u u x414 x808 u u u u u u u u u u u u u u u u u u u u u u u u u u u u u u u u u u u u u u u u u u u u u u u u u u u u u u u u u u u u u u u u u u u u u u u u u u u u u u u u u u u u u u u u u u u u u u u u u u u u u u u u u u u u u u u u u u u u h532)) (j661 x407 u u u u u u x414 x414 u u u u u u u u u u u u u u u u u u u u u u u u u u u u u u u u u u u u u u u u u u u u u u u u u u u u u u u u u u u u u u u u u u u u u u u u u u u u u u u u u u u u u u u u u u u u u u u u u u u u u u u u u u u u u u u u u u u u h532)) fun j533 =>
 brS x323 (kBin .leq x287 (qi 128) fun x938 =>
 jc (α := JT) (fun x939 h940 =>
 jc (α := JT) (fun x942 h943 =>
 kPick x938 x942 qf fun x945 =>
 brS x945 (kP (subsE (.str (bs [32, 32, 32, 32, 32, 32, 32, 32, 32, 32, 32, 32, 32, 32, 32, 32, 32, 32, 32, 32, 32, 32, 32, 32, 32, 32, 32, 32, 32, 32, 32, 32, 32, 32, 32, 32, 32, 32, 32, 32, 32, 32, 32, 32, 32, 32, 32, 32, 32, 32, 32, 32, 32, 32, 32, 32, 32, 32, 32, 32, 32, 32, 32, 32, 32, 32, 32, 32, 32, 32, 32, 32, 32, 32, 32, 32, 32, 32, 32, 32, 32, 32, 32, 32, 32, 32, 32, 32, 32, 32, 32, 32, 32, 32, 32, 32, 32, 32, 32, 32, 32, 32, 32, 32, 32, 32, 32, 32, 32, 32, 32, 32, 32, 32, 32, 32, 32, 32, 32, 32, 32, 32, 32, 32, 32, 32, 32, 32])) none (some x287)) fun x946 =>
 some (x946, h943)) (kBin .leq x287 (qi 128) fun x947 =>
 jc (α := JT) (fun x948 h949 =>
 jc (α := JT) (fun x951 h952 =>
 kPick x947 x951 qf fun x954 =>
 brS x954 (kP (subsE (.str (bs [45, 45, 45, 45, 45, 45, 45, 45, 45, 45, 45, 45, 45, 45, 45, 45, 45, 45, 45, 45, 45, 45, 45, 45, 45, 45, 45, 45, 45, 45, 45, 45, 45, 45, 45, 45, 45, 45, 45, 45, 45, 45, 45, 45, 45, 45, 45, 45, 45, 45, 45, 45, 45, 45, 45, 45, 45, 45, 45, 45, 45, 45, 45, 45, 45, 45, 45, 45, 45, 45, 45, 45, 45, 45, 45, 45, 45, 45, 45, 45, 45, 45, 45, 45, 45, 45, 45, 45, 45, 45, 45, 45, 45, 45, 45, 45, 45, 45, 45, 45, 45, 45, 45, 45, 45, 45, 45, 45, 45, 45, 45, 45, 45, 45, 45, 45, 45, 45, 45, 45, 45, 45, 45, 45, 45, 45, 45, 45])) none (some x287)) fun x955 =>
 some (x955, h952)) (kBin .leq x287 (qi 64) fun x956 =>
 jc (α := JT) (fun x957 h958 =>
 jc (α := JT) (fun x960 h961 =>
 kPick x956 x960 qf fun x963 =>
 brS x963 (kP (subsE (.str (bs [48, 48, 48, 48, 48, 48, 48, 48, 48, 48, 48, 48, 48, 48, 48, 48, 48, 48, 48, 48, 48, 48, 48, 48, 48, 48, 48, 48, 48, 48, 48, 48, 48, 48, 48, 48, 48, 48, 48, 48, 48, 48, 48, 48, 48, 48, 48, 48, 48, 48, 48, 48, 48, 48, 48, 48, 48, 48, 48, 48, 48, 48, 48, 48])) none (some x287)) fun x964 =>
 some (x964, h961)) (kBin .leq x287 (qi 128) fun x965 =>
 jc (α := JT) (fun x966 h967 =>
 jc (α := JT) (fun x969 h970 =>
 kPick x965 x969 qf fun x972 =>
 brS x972 (kP (subsE (.str (bs [61, 61, 61, 61, 61, 61, 61, 61, 61, 61, 61, 61, 61, 61, 61, 61, 61, 61, 61, 61, 61, 61, 61, 61, 61, 61, 61, 61, 61, 61, 61, 61, 61, 61, 61, 61, 61, 61, 61, 61, 61, 61, 61, 61, 61, 61, 61, 61, 61, 61, 61, 61, 61, 61, 61, 61, 61, 61, 61, 61, 61, 61, 61, 61, 61, 61, 61, 61, 61, 61, 61, 61, 61, 61, 61, 61, 61, 61, 61, 61, 61, 61, 61, 61, 61, 61, 61, 61, 61, 61, 61, 61, 61, 61, 61, 61, 61, 61, 61, 61, 61, 61, 61, 61, 61, 61, 61, 61, 61, 61, 61, 61, 61, 61, 61, 61, 61, 61, 61, 61, 61, 61, 61, 61, 61, 61, 61, 61])) none (some x287)) fun x973 =>
 some (x973, h970)) (kBin .leq x287 (qi 64) fun x974 =>
 jc (α := JT) (fun x975 h976 =>
 jc (α := JT) (fun x978 h979 =>
 kPick x974 x978 qf fun x981 =>
 brS x981 (kP (subsE (.str (bs [9, 9, 9, 9, 9, 9, 9, 9, 9, 9, 9, 9, 9, 9, 9, 9, 9, 9, 9, 9, 9, 9, 9, 9, 9, 9, 9, 9, 9, 9, 9, 9, 9, 9, 9, 9, 9, 9, 9, 9, 9, 9, 9, 9, 9, 9, 9, 9, 9, 9, 9, 9, 9, 9, 9, 9, 9, 9, 9, 9, 9, 9, 9, 9])) none (some x287)) fun x982 =>
 some (x982, h979)) (j533 x280 u u u u u u x287 u u u u u u u u u u u u u u u u u u u u u u u u u u u u u u u u u u u u u u u u u u u u u u u u u u u u u u u u u u u u u u u u u u u u u u u u u u u u u u u u u u u u u u u u u u u u u u u u u u u u u u u u u u u u u u u u u u u u u h979)) fun j980 =>
 wtS x974 true (kCall X 206 [(.str (bs [9, 9, 9, 9, 9, 9, 9, 9, 9, 9, 9, 9, 9, 9, 9, 9, 9, 9, 9, 9, 9, 9, 9, 9, 9, 9, 9, 9, 9, 9, 9, 9, 9, 9, 9, 9, 9, 9, 9, 9, 9, 9, 9, 9, 9, 9, 9, 9, 9, 9, 9, 9, 9, 9, 9, 9, 9, 9, 9, 9, 9, 9, 9, 9])), x975] h976 fun x983 h984 =>
 j980 x983 h984) (j980 u h976)) fun j977 =>
 wtS x974 true (j977 x280 h970) (j977 u h970))) fun j971 =>
 wtS x965 true (kCall X 206 [(.str (bs [61, 61, 61, 61, 61, 61, 61, 61, 61, 61, 61, 61, 61, 61, 61, 61, 61, 61, 61, 61, 61, 61, 61, 61, 61, 61, 61, 61, 61, 61, 61, 61, 61, 61, 61, 61, 61, 61, 61, 61, 61, 61, 61, 61, 61, 61, 61, 61, 61, 61, 61, 61, 61, 61, 61, 61, 61, 61, 61, 61, 61, 61, 61, 61, 61, 61, 61, 61, 61, 61, 61, 61, 61, 61, 61, 61, 61, 61, 61, 61, 61, 61, 61, 61, 61, 61, 61, 61, 61, 61, 61, 61, 61, 61, 61, 61, 61, 61, 61, 61, 61, 61, 61, 61, 61, 61, 61, 61, 61, 61, 61, 61, 61, 61, 61, 61, 61, 61, 61, 61, 61, 61, 61, 61, 61, 61, 61, 61])), x966] h967 fun x985 h986 =>
 j971 x985 h986) (j971 u h967)) fun j968 =>
 wtS x965 true (j968 x280 h961) (j968 u h961))) fun j962 =>
 wtS x956 true (kCall X 206 [(.str (bs [48, 48, 48, 48, 48, 48, 48, 48, 48, 48, 48, 48, 48, 48, 48, 48, 48, 48, 48, 48, 48, 48, 48, 48, 48, 48, 48, 48, 48, 48, 48, 48, 48, 48, 48, 48, 48, 48, 48, 48, 48, 48, 48, 48, 48, 48, 48, 48, 48, 48, 48, 48, 48, 48, 48, 48, 48, 48, 48, 48, 48, 48, 48, 48])), x957] h958 fun x987 h988 =>
 j962 x987 h988) (j962 u h958)) fun j959 =>
 wtS x956 true (j959 x280 h952) (j959 u h952))) fun j953 =>
 wtS x947 true (kCall X 206 [(.str (bs [45, 45, 45, 45, 45, 45, 45, 45, 45, 45, 45, 45, 45, 45, 45, 45, 45, 45, 45, 45, 45, 45, 45, 45, 45, 45, 45, 45, 45, 45, 45, 45, 45, 45, 45, 45, 45, 45, 45, 45, 45, 45, 45, 45, 45, 45, 45, 45, 45, 45, 45, 45, 45, 45, 45, 45, 45, 45, 45, 45, 45, 45, 45, 45, 45, 45, 45, 45, 45, 45, 45, 45, 45, 45, 45, 45, 45, 45, 45, 45, 45, 45, 45, 45, 45, 45, 45, 45, 45, 45, 45, 45, 45, 45, 45, 45, 45, 45, 45, 45, 45, 45, 45, 45, 45, 45, 45, 45, 45, 45, 45, 45, 45, 45, 45, 45, 45, 45, 45, 45, 45, 45, 45, 45, 45, 45, 45, 45])), x948] h949 fun x989 h990 =>
 j953 x989 h990) (j953 u h949)) fun j950 =>
 wtS x947 true (j950 x280 h943) (j950 u h943))) fun j944 =>
 wtS x938 true (kCall X 206 [(.str (bs [32, 32, 32, 32, 32, 32, 32, 32, 32, 32, 32, 32, 32, 32, 32, 32, 32, 32, 32, 32, 32, 32, 32, 32, 32, 32, 32, 32, 32, 32, 32, 32, 32, 32, 32, 32, 32, 32, 32, 32, 32, 32, 32, 32, 32, 32, 32, 32, 32, 32, 32, 32, 32, 32, 32, 32, 32, 32, 32, 32, 32, 32, 32, 32, 32, 32, 32, 32, 32, 32, 32, 32, 32, 32, 32, 32, 32, 32, 32, 32, 32, 32, 32, 32, 32, 32, 32, 32, 32, 32, 32, 32, 32, 32, 32, 32, 32, 32, 32, 32, 32, 32, 32, 32, 32, 32, 32, 32, 32, 32, 32, 32, 32, 32, 32, 32, 32, 32, 32, 32, 32, 32, 32, 32, 32, 32, 32, 32])), x939] h940 fun x991 h992 =>
 j944 x991 h992) (j944 u h940)) fun j941 =>
 wtS x938 true (j941 x280 h405) (j941 u h405)) (j533 x280 u u u u u u x287 u u u u u u u u u u u u u u u u u u u u u u u u u u u u u u u u u u u u u u u u u u u u u u u u u u u u u u u u u u u u u u u u u u u u u u u u u u u u u u u u u u u u u u u u u u u u u u u u u u u u u u u u u u u u u u u u u u u u u h405)) fun j406 =>
 brS x279 (j406 x148 u u u u u u x275 u u u u u u u u u u u u u u u u u u u u u u u u u u u u u u u u u u u x279 u u u u u u u u u u u u u u u u u u u u u u u u u u u u u u u u u u u u u u u u u u u u u u u u u u u u u u u u u u u u u u u u u u u u u u u u u u u u u u u u u h273) (kEqI false x278 (qb 45) fun x993 =>
 jc (α := Cur 125) (fun x994 _ _ _ _ _ _ x1001 _ _ _ _ _ _ _ _ _ _ _ _ _ _ _ _ _ _ _ _ _ _ _ _ _ _ _ _ _ _ _ _ _ _ _ x1037 _ _ _ _ _ _ _ _ _ _ _ _ _ _ _ _ _ _ _ _ _ _ _ _ _ _ _ _ _ _ _ _ _ _ _ _ _ _ _ _ _ _ _ _ _ _ _ _ _ _ _ _ _ _ _ _ _ _ _ _ _ _ _ _ _ _ _ _ _ _ _ _ _ _ _ _ _ _ _ _ _ h1119 =>
 j406 x994 u u u u u u x1001 u u u u u u u u u u u u u u u u u u u u u u u u u u u u u u u u u u u x1037 u u u u u u u u u u u u u u u u u u u u u u u u u u u u u u u u u u u u u u u u u u u u u u u u u u u u u u u u u u u u u u u u u u u u u u u u u u u u u u u u u h1119) fun j1120 =>
 brS x993 (j1120 x148 u u u u u u x275 u u u u u u u u u u u u u u u u u u u u u u u u u u u u u u u u u u u x993 u u u u u u u u u u u u u u u u u u u u u u u u u u u u u u u u u u u u u u u u u u u u u u u u u u u u u u u u u u u u u u u u u u u u u u u u u u u u u u u u u h273) (kEqI false x278 (qb 48) fun x1121 =>
 jc (α := Cur 125) (fun x1122 _ _ _ _ _ _ x1129 _ _ _ _ _ _ _ _ _ _ _ _ _ _ _ _ _ _ _ _ _ _ _ _ _ _ _ _ _ _ _ _ _ _ _ x1165 _ _ _ _ _ _ _ _ _ _ _ _ _ _ _ _ _ _ _ _ _ _ _ _ _ _ _ _ _ _ _ _ _ _ _ _ _ _ _ _ _ _ _ _ _ _ _ _ _ _ _ _ _ _ _ _ _ _ _ _ _ _ _ _ _ _ _ _ _ _ _ _ _ _ _ _ _ _ _ _ _ h1247 =>
 j1120 x1122 u u u u u u x1129 u u u u u u u u u u u u u u u u u u u u u u u u u u u u u u u u u u u x1165 u u u u u u u u u u u u u u u u u u u u u u u u u u u u u u u u u u u u u u u u u u u u u u u u u u u u u u u u u u u u u u u u u u u u u u u u u u u u u u u u u h1247) fun j1248 =>
 brS x1121 (j1248 x148 u u u u u u x275 u u u u u u u u u u u u u u u u u u u u u u u u u u u u u u u u u u u x1121 u u u u u u u u u u u u u u u u u u u u u u u u u u u u u u u u u u u u u u u u u u u u u u u u u u u u u u u u u u u u u u u u u u u u u u u u u u u u u u u u u h273) (kEqI false x278 (qb 61) fun x1249 =>
 jc (α := Cur 125) (fun x1250 _ _ _ _ _ _ x1257 _ _ _ _ _ _ _ _ _ _ _ _ _ _ _ _ _ _ _ _ _ _ _ _ _ _ _ _ _ _ _ _ _ _ _ x1293 _ _ _ _ _ _ _ _ _ _ _ _ _ _ _ _ _ _ _ _ _ _ _ _ _ _ _ _ _ _ _ _ _ _ _ _ _ _ _ _ _ _ _ _ _ _ _ _ _ _ _ _ _ _ _ _ _ _ _ _ _ _ _ _ _ _ _ _ _ _ _ _ _ _ _ _ _ _ _ _ _ h1375 =>
 j1248 x1250 u u u u u u x1257 u u u u u u u u u u u u u u u u u u u u u u u u u u u u u u u u u u u x1293 u u u u u u u u u u u u u u u u u u u u u u u u u u u u u u u u u u u u u u u u u u u u u u u u u u u u u u u u u u u u u u u u u u u u u u u u u u u u u u u u u h1375) fun j1376 =>
 brS x1249 (j1376 x148 u u u u u u x275 u u u u u u u u u u u u u u u u u u u u u u u u u u u u u u u u u u u x1249 u u u u u u u u u u u u u u u u u u u u u u u u u u u u u u u u u u u u u u u u u u u u u u u u u u u u u u u u u u u u u u u u u u u u u u u u u u u u u u u u u h273) (kEqI false x278 (qb 9) fun x1377 =>
 j1376 x148 u u u u u u x275 u u u u u u u u u u u u u u u u u u u u u u u u u u u u u u u u u u u x1377 u u u u u u u u u u u u u u u u u u u u u u u u u u u u u u u u u u u u u u u u u u u u u u u u u u u u u u u u u u u u u u u u u u u u u u u u u u u u u u u u u h273)))))) fun j274 =>
 brS x147 (none) (j274 x6 u u u u u x139 u u u u u u u u u u u u u u u u u u u u u u u u u u u u u u u u u u u u u u u u u u u u u u u u u u u u u u u u u u u u u u u u u u u u u u u u u u u u u u u u u u u u u u u u u u u u u u u u u u u u u u u u u u u u u u u u u u u u u u h145)) fun j146 =>
 wtS x140 false (kBin .gtr x141 (.int .u64 9223372036854775807) fun x1378 =>
 j146 x1378 h142) (j146 u h142)) fun j143 =>
 wtS x140 false (j143 x139 h137) (j143 u h137)) fun j132 =>
 brS x5 (none) (j132 x0 x1 u u u u u u u u u u u u u u u u u u u u u u u u u u u u u u u u u u u u u u u u u u u u u u u u u u u u u u u u u u u u u u u u u u u u u u u u u u u u u u u u u u u u u u u u u u u u u u u u u u u u u u u u u u u u u u u u u u u u u u u u u u u h2))))
theorem p200_ok (k : Nat) : p200 k = funcS k 2 lit200 := by kernel_rfl
def p201 (_ : Nat) : CtxK → List V → TH → R := fun X => ap 4 (fun x0 x1 x2 x3 h4 =>
 kConv .u32 x0 fun x5 =>
 kConv .u32 x1 fun x6 =>
 kConv .u32 x2 fun x7 =>
 kCall X 212 [x5, x6, x7] h4 fun x8 h9 =>
 kCall X 211 [x8, x3] h9 fun x10 h11 =>
 some (x10, h11))
theorem p201_ok (k : Nat) : p201 k = funcS k 4 lit201 := by kernel_rfl
def p203 (_ : Nat) : CtxK → List V → TH → R := fun _ => ap 3 (fun x0 x1 x2 h3 =>
 kL1 x1 h3 fun x6 =>
 kEqI false x0 x6 fun x7 =>
 jc (α := V → TH → PD → R) (fun x10 h11 d12 =>
 jc (α := JT) (fun x14 h15 =>
 jc (α := JT) (fun x17 h18 =>
 jc (α := JT) (fun x20 h21 =>
 jc (α := JT) (fun x23 h24 =>
 jc (α := JT) (fun x26 h27 =>
 jc (α := JT) (fun x29 h30 =>
 jc (α := V → TH → PD → R) (fun x34 h35 d36 =>
 jc (α := V → TH → PD → R) (fun x40 h41 d42 =>
 jc (α := V → TH → PD → R) (fun x46 h47 d48 =>
 jc (α := JT) (fun x50 h51 =>
 jc (α := JT) (fun x53 h54 =>
 jc (α := JT) (fun x56 h57 =>
 jc (α := JT) (fun x59 h60 =>
 jc (α := JT) (fun x62 h63 =>
 jc (α := V → TH → PD → R) (fun x67 h68 d69 =>
 jc (α := JT) (fun x71 h72 =>
 kPick x7 qt x71 fun x74 =>
 dokS [h72] d69 (some (x74, h72))) fun j73 =>
 wtS x7 false (kEqI false x34 x67 fun x75 =>
 j73 x75 h68) (j73 u h68)) fun j70 =>
 wtS x7 false (kL1 x62 h63 fun x76 =>
 j70 x76 h63 d48) (j70 u h63 d48)) fun j64 =>
 wtS x7 false (kFA 2 x59 fun x77 =>
 j64 x77 h60) (j64 u h60)) fun j61 =>
 wtS x7 false (kIA 5 3 x56 x46 fun x78 =>
 j61 x78 h57) (j61 u h57)) fun j58 =>
 wtS x7 false (kFA 1 x53 fun x79 =>
 j58 x79 h54) (j58 u h54)) fun j55 =>
 wtS x7 false (kFA 0 x50 fun x80 =>
 j55 x80 h51) (j55 u h51)) fun j52 =>
 wtS x7 false (kNilc x40 fun x81 =>
 j52 x81 h47) (j52 u h47)) fun j49 =>
 wtS x7 false (kL1 x1 h41 fun x82 =>
 j49 x82 h41 d42) (j49 u h41 d42)) fun j43 =>
 wtS x7 false (kL1 x2 h35 fun x83 =>
 j43 x83 h35 d36) (j43 u h35 d36)) fun j37 =>
 wtS x7 false (kL1 x29 h30 fun x84 =>
 j37 x84 h30 d12) (j37 u h30 d12)) fun j31 =>
 wtS x7 false (kFA 2 x26 fun x85 =>
 j31 x85 h27) (j31 u h27)) fun j28 =>
 wtS x7 false (kIA 5 3 x23 x14 fun x86 =>
 j28 x86 h24) (j28 u h24)) fun j25 =>
 wtS x7 false (kFA 1 x20 fun x87 =>
 j25 x87 h21) (j25 u h21)) fun j22 =>
 wtS x7 false (kFA 0 x17 fun x88 =>
 j22 x88 h18) (j22 u h18)) fun j19 =>
 wtS x7 false (kNilc x10 fun x89 =>
 j19 x89 h15) (j19 u h15)) fun j16 =>
 wtS x7 false (j16 x0 h11) (j16 u h11)) fun j13 =>
 wtS x7 false (kL1 x2 h3 fun x90 =>
 j13 x90 h3 []) (j13 u h3 []))
theorem p203_ok (k : Nat) : p203 k = funcS k 3 lit203 := by kernel_rfl
def p212 (_ : Nat) : CtxK → List V → TH → R := fun X => ap 3 (fun x0 x1 x2 h3 =>
 kConv .u64 x0 fun x4 =>
 kCall X 82 [x4] h3 fun x5 h6 =>
 kConv .u64 x1 fun x7 =>
 kBin .add x5 x7 fun x8 =>
 kCall X 82 [x8] h6 fun x9 h10 =>
 kConv .u64 x2 fun x11 =>
 kBin .add x9 x11 fun x12 =>
 kCall X 82 [x12] h10 fun x13 h14 =>
 kConv .u32 x13 fun x15 =>
 some (x15, h14))
theorem p212_ok (k : Nat) : p212 k = funcS k 3 lit212 := by kernel_rfl
def p229 (_ : Nat) : CtxK → List V → TH → R := fun _ => ap 1 (fun x0 h1 =>
 kNilc x0 fun x2 =>
 kFA 0 x2 fun x3 =>
 kL1 x3 h1 fun x6 =>
 kNilc x0 fun x7 =>
 kFA 0 x7 fun x8 =>
 kL1 x8 h1 fun x11 =>
 kBin .mul x6 x11 fun x12 =>
 kBin .shr x12 (.int .u64 31) fun x13 =>
 kNilc x0 fun x14 =>
 kFA 0 x14 fun x15 =>
 kS1 x15 x13 h1 fun _ h17 =>
 dokS [h1, h17] [] (kNilc x0 fun x18 =>
 kFA 1 x18 fun x19 =>
 kL1 x19 h17 fun x20 =>
 kBin .shl x20 (.int .u64 1) fun x21 =>
 kNilc x0 fun x22 =>
 kFA 1 x22 fun x23 =>
 kS1 x23 x21 h17 fun _ h25 =>
 kNilc x0 fun x26 =>
 kFA 0 x26 fun x27 =>
 kL1 x27 h25 fun x28 =>
 kBin .geq x28 (.int .u64 4294967296) fun x29 =>
 jc (α := Cur 41) (fun _ _ _ _ _ _ _ _ _ _ _ _ _ _ _ _ _ _ _ _ _ _ _ _ _ _ _ _ _ _ _ _ _ _ _ _ _ _ _ _ _ h71 =>
 some (.tup [], h71)) fun j72 =>
 brS x29 (kNilc x0 fun x73 =>
 kFA 0 x73 fun x74 =>
 kL1 x74 h25 fun x75 =>
 kBin .shr x75 (.int .u64 1) fun x76 =>
 kNilc x0 fun x77 =>
 kFA 0 x77 fun x78 =>
 kS1 x78 x76 h25 fun _ h80 =>
 kNilc x0 fun x81 =>
 kFA 1 x81 fun x82 =>
 kL1 x82 h80 fun x83 =>
 kBin .or x83 (qi 1) fun x84 =>
 kNilc x0 fun x85 =>
 kFA 1 x85 fun x86 =>
 kS1 x86 x84 h80 fun _ h88 =>
 j72 u u u u u u u u u u u u u u u u u u u u u u u u u u u u u u u u u u u u u u u u u h88) (j72 u u u u u u u u u u u u u u u u u u u u u u u u u u u u u u u u u u u u u u u u u h25)))
theorem p229_ok (k : Nat) : p229 k = funcS k 1 lit229 := by kernel_rfl
end
end Go.PE
