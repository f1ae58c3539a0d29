/- The same functions with names for their slots (part 2 of 4), printed by a program of our own: each is what the evaluator's law says of the literal. -/
import Derived.Test.YtcgjkbnijnefjaaGreatDoorAgL3
import Derived.KernelRfl
namespace Go.PE
set_option maxRecDepth 100000
noncomputable section
def p15 (_ : Nat) : CtxK → List V → TH → R := fun X => ap 2 (fun x0 x1 h2 =>
 kNew (V.cellsR x0) h2 fun x3 h4 =>
 kNew (V.cellsR x1) h4 fun x5 h6 =>
 kFA 0 x3 fun x7 =>
 kL1 x7 h6 fun x8 =>
 kFA 0 x5 fun x9 =>
 kL1 x9 h6 fun x10 =>
 kEqI false x8 x10 fun x11 =>
 jc (α := JT) (fun x12 h13 =>
 jc (α := JT) (fun x15 h16 =>
 jc (α := JT) (fun x18 h19 =>
 jc (α := JT) (fun x21 h22 =>
 jc (α := JT) (fun x24 h25 =>
 kPick x11 x24 qf fun x27 =>
 jc (α := JT) (fun x28 h29 =>
 jc (α := JT) (fun x31 h32 =>
 jc (α := JT) (fun x34 h35 =>
 jc (α := JT) (fun x37 h38 =>
 jc (α := JT) (fun x40 h41 =>
 kPick x27 x40 qf fun x43 =>
 jc (α := JT) (fun x44 h45 =>
 jc (α := JT) (fun x47 h48 =>
 jc (α := JT) (fun x50 h51 =>
 jc (α := JT) (fun x53 h54 =>
 jc (α := JT) (fun x56 h57 =>
 kPick x43 x56 qf fun x59 =>
 some (x59, h57)) fun j58 =>
 wtS x43 true (kCall X 40 [x47, x53] h54 fun x60 h61 =>
 j58 x60 h61) (j58 u h54)) fun j55 =>
 wtS x43 true (kL1 x50 h51 fun x62 =>
 j55 x62 h51) (j55 u h51)) fun j52 =>
 wtS x43 true (kFA 48 x5 fun x63 =>
 j52 x63 h48) (j52 u h48)) fun j49 =>
 wtS x43 true (kL1 x44 h45 fun x64 =>
 j49 x64 h45) (j49 u h45)) fun j46 =>
 wtS x43 true (kFA 48 x3 fun x65 =>
 j46 x65 h41) (j46 u h41)) fun j42 =>
 wtS x27 true (kEq' false (.agg [.int, .int, .int, .int, .int, .int, .int, .str]) x31 x37 fun x66 =>
 j42 x66 h38) (j42 u h38)) fun j39 =>
 wtS x27 true (kLA 8 x34 h35 fun x67 =>
 j39 x67 h35) (j39 u h35)) fun j36 =>
 wtS x27 true (kFA 40 x5 fun x68 =>
 j36 x68 h32) (j36 u h32)) fun j33 =>
 wtS x27 true (kLA 8 x28 h29 fun x69 =>
 j33 x69 h29) (j33 u h29)) fun j30 =>
 wtS x27 true (kFA 40 x3 fun x70 =>
 j30 x70 h25) (j30 u h25)) fun j26 =>
 wtS x11 true (kEq' false (.agg [.bool, .str, .str, .str, .str, .bool, .str, .str, .str, .str, .bool, .str, .str, .str, .str, .bool, .str, .str, .str, .str, .bool, .str, .str, .str, .str, .bool, .str, .str, .str, .str, .int, .int, .str, .int, .int, .str, .int, .int, .str]) x15 x21 fun x71 =>
 j26 x71 h22) (j26 u h22)) fun j23 =>
 wtS x11 true (kLA 39 x18 h19 fun x72 =>
 j23 x72 h19) (j23 u h19)) fun j20 =>
 wtS x11 true (kFA 1 x5 fun x73 =>
 j20 x73 h16) (j20 u h16)) fun j17 =>
 wtS x11 true (kLA 39 x12 h13 fun x74 =>
 j17 x74 h13) (j17 u h13)) fun j14 =>
 wtS x11 true (kFA 1 x3 fun x75 =>
 j14 x75 h6) (j14 u h6))
theorem p15_ok (k : Nat) : p15 k = funcS k 2 lit15 := by kernel_rfl
def p17 (_ : Nat) : CtxK → List V → TH → R := fun X => ap 3 (fun x0 x1 x2 h3 =>
 kNew [(qb 0), (qw 0), (qb 0), (qb 0), (qb 0), qs] h3 fun x4 h5 =>
 kCall X 16 [x0] h5 fun x6 h7 =>
 kB [(qb 0), (qw 0), (qb 0), (qb 0), (qb 0), qs] [(0, 1, (qb 1)), (1, 1, x1), (2, 1, (qb 1)), (3, 1, x6), (5, 1, x2)] fun x8 =>
 kSA 6 x4 x8 h7 fun _ h10 =>
 rsS [.cell 6 true 6] [x0, x1, x2, u, u, u, x4, x1, x0, x6, x2, x8] h10)
theorem p17_ok (k : Nat) : p17 k = funcS k 3 lit17 := by kernel_rfl
def p18 (_ : Nat) : CtxK → List V → TH → R := fun X => ap 2 (fun x0 x1 h2 =>
 kNilc x0 fun x3 =>
 kFA 7 x3 fun x4 =>
 kL1 x4 h2 fun x5 =>
 kIS 131 x5 x1 fun x6 =>
 kLA 131 x6 h2 fun x7 =>
 kNew zr1 h2 fun x8 h9 =>
 kSA 131 x8 x7 h9 fun _ h11 =>
 kNilc x0 fun x12 =>
 kFA 7 x12 fun x13 =>
 kL1 x13 h11 fun x16 =>
 kP (sliceE 131 x16 none (some x1)) fun x17 =>
 kNilc x0 fun x18 =>
 kFA 7 x18 fun x19 =>
 kL1 x19 h11 fun x22 =>
 kBin .add x1 (qi 1) fun x23 =>
 kP (sliceE 131 x22 (some x23) none) fun x24 =>
 kAp 131 1400 .nils x17 h11 fun x25 h26 =>
 kAp 131 1400 x25 x24 h26 fun x27 h28 =>
 kNilc x0 fun x29 =>
 kFA 7 x29 fun x30 =>
 kS1 x30 x27 h28 fun _ h32 =>
 dokS [h11, h26, h28, h32] ((fun h20 => kL1 x19 h20 fun x21 =>
 some (x21, h20), x22, 0, 1) :: []) (kFA 2 x8 fun x33 =>
 kL1 x33 h32 fun x34 =>
 kBin .geq x34 (qb 20) fun x35 =>
 brS x35 (kNilc x0 fun x36 =>
 kFA 8 x36 fun x37 =>
 kL1 x37 h32 fun x40 =>
 kLA 131 x8 h32 fun x43 =>
 kBS 131 zr1 1 [(0, 131, x43)] h32 fun x44 h45 =>
 kAp 131 1400 x40 x44 h45 fun x46 h47 =>
 kNilc x0 fun x48 =>
 kFA 8 x48 fun x49 =>
 kS1 x49 x46 h47 fun _ h51 =>
 dokS [h45, h47, h51] [] (some (.tup [], h51))) (kNilc x0 fun x52 =>
 kFA 7 x52 fun x53 =>
 kL1 x53 h32 fun x56 =>
 kFA 2 x8 fun x57 =>
 kL1 x57 h32 fun x60 =>
 kBin .sub x60 (qb 10) fun x61 =>
 kNilc x0 fun x62 =>
 kFA 2 x62 fun x63 =>
 kIA 5 1 x63 x61 fun x64 =>
 kL1 x64 h32 fun x67 =>
 kNilc x0 fun x68 =>
 kFA 0 x68 fun x69 =>
 kL1 x69 h32 fun x72 =>
 kLA 131 x8 h32 fun x75 =>
 kCall X 14 [x67, x72, x75] h32 fun x76 h77 =>
 kAp 131 1400 x56 x76 h77 fun x78 h79 =>
 kNilc x0 fun x80 =>
 kFA 7 x80 fun x81 =>
 kS1 x81 x78 h79 fun _ h83 =>
 dokS [h32, h77, h79, h83] ((fun h54 => kL1 x53 h54 fun x55 =>
 some (x55, h54), x56, 0, 1) :: []) (some (.tup [], h83)))))
theorem p18_ok (k : Nat) : p18 k = funcS k 2 lit18 := by kernel_rfl
def p36 (_ : Nat) : CtxK → List V → TH → R := fun _ => ap 1 (fun x0 h1 =>
 kNew (V.cellsR x0) h1 fun x2 h3 =>
 kNew zr0 h3 fun x4 h5 =>
 kFA 48 x2 fun x6 =>
 kL1 x6 h5 fun x7 =>
 kLen x7 fun x8 =>
 kMS 8 40 zr2 x8 x8 h5 fun x9 h10 =>
 kFA 48 x2 fun x11 =>
 kL1 x11 h10 fun x12 =>
 kCo 8 x9 x12 h10 fun x13 h14 =>
 kFA 48 x2 fun x15 =>
 kS1 x15 x9 h14 fun _ h17 =>
 kLA 49 x2 h17 fun x18 =>
 kSA 49 x4 x18 h17 fun _ h20 =>
 rsS [.cell 2 true 49] [x0, x2, x4, x9, x6, x7, x8, x9, x9, x11, x12, x13, x9, x15, x18] h20)
theorem p36_ok (k : Nat) : p36 k = funcS k 1 lit36 := by kernel_rfl
def p38 (_ : Nat) : CtxK → List V → TH → R := fun X => ap 1 (fun x0 h1 =>
 kNew (V.cellsR x0) h1 fun x2 h3 =>
 kLA 131 x2 h3 fun x4 =>
 kCall X 72 [x4] h3 fun x5 h6 =>
 kNot x5 fun x7 =>
 jc (α := JT) (fun x8 h9 =>
 jc (α := JT) (fun x11 h12 =>
 jc (α := JT) (fun x14 h15 =>
 jc (α := JT) (fun x17 h18 =>
 jc (α := JT) (fun x20 h21 =>
 kPick x7 qt x20 fun x23 =>
 brS x23 (some (qf, h21)) (kFA 0 x2 fun x24 =>
 kL1 x24 h21 fun x25 =>
 kCall X 73 [x25] h21 fun x26 h27 =>
 kNew zr3 h27 fun x28 h29 =>
 kSA 11 x28 x26 h29 fun _ h31 =>
 kLA 131 x2 h31 fun x32 =>
 kLA 11 x28 h31 fun x33 =>
 kCall X 74 [x32, x33] h31 fun x34 h35 =>
 jc (α := JT) (fun x36 h37 =>
 jc (α := JT) (fun x39 h40 =>
 jc (α := JT) (fun x42 h43 =>
 jc (α := JT) (fun x45 h46 =>
 jc (α := JT) (fun x48 h49 =>
 jc (α := JT) (fun x51 h52 =>
 jc (α := JT) (fun x54 h55 =>
 kPick x34 x54 qf fun x57 =>
 jc (α := JT) (fun x58 h59 =>
 jc (α := JT) (fun x61 h62 =>
 jc (α := JT) (fun x64 h65 =>
 jc (α := JT) (fun x67 h68 =>
 jc (α := JT) (fun x70 h71 =>
 jc (α := JT) (fun x73 h74 =>
 jc (α := JT) (fun x76 h77 =>
 kPick x57 x76 qf fun x79 =>
 jc (α := JT) (fun x80 h81 =>
 jc (α := JT) (fun x83 h84 =>
 jc (α := JT) (fun x86 h87 =>
 jc (α := JT) (fun x89 h90 =>
 jc (α := JT) (fun x92 h93 =>
 jc (α := JT) (fun x95 h96 =>
 jc (α := JT) (fun x98 h99 =>
 kPick x79 x98 qf fun x101 =>
 jc (α := JT) (fun x102 h103 =>
 jc (α := JT) (fun x105 h106 =>
 jc (α := JT) (fun x108 h109 =>
 kPick x101 x108 qf fun x111 =>
 jc (α := JT) (fun x112 h113 =>
 jc (α := JT) (fun x115 h116 =>
 jc (α := JT) (fun x118 h119 =>
 jc (α := JT) (fun x121 h122 =>
 jc (α := JT) (fun x124 h125 =>
 jc (α := JT) (fun x127 h128 =>
 jc (α := JT) (fun x130 h131 =>
 jc (α := JT) (fun x133 h134 =>
 kPick x111 x133 qf fun x136 =>
 jc (α := JT) (fun x137 h138 =>
 jc (α := JT) (fun x140 h141 =>
 jc (α := JT) (fun x143 h144 =>
 jc (α := JT) (fun x146 h147 =>
 jc (α := JT) (fun x149 h150 =>
 jc (α := JT) (fun x152 h153 =>
 jc (α := JT) (fun x155 h156 =>
 jc (α := JT) (fun x158 h159 =>
 kPick x136 x158 qf fun x161 =>
 jc (α := JT) (fun x162 h163 =>
 jc (α := JT) (fun x165 h166 =>
 jc (α := JT) (fun x168 h169 =>
 jc (α := JT) (fun x171 h172 =>
 jc (α := JT) (fun x174 h175 =>
 jc (α := JT) (fun x177 h178 =>
 jc (α := JT) (fun x180 h181 =>
 jc (α := JT) (fun x183 h184 =>
 kPick x161 x183 qf fun x186 =>
 jc (α := JT) (fun x187 h188 =>
 jc (α := JT) (fun x190 h191 =>
 kPick x186 x190 qf fun x193 =>
 jc (α := JT) (fun x194 h195 =>
 jc (α := JT) (fun x197 h198 =>
 jc (α := JT) (fun x200 h201 =>
 jc (α := JT) (fun x203 h204 =>
 jc (α := JT) (fun x206 h207 =>
 jc (α := JT) (fun x209 h210 =>
 jc (α := JT) (fun x212 h213 =>
 kPick x193 x212 qf fun x215 =>
 jc (α := JT) (fun x216 h217 =>
 jc (α := JT) (fun x219 h220 =>
 jc (α := JT) (fun x222 h223 =>
 jc (α := JT) (fun x225 h226 =>
 kPick x215 x225 qf fun x228 =>
 jc (α := JT) (fun x229 h230 =>
 jc (α := JT) (fun x232 h233 =>
 jc (α := JT) (fun x235 h236 =>
 jc (α := JT) (fun x238 h239 =>
 jc (α := JT) (fun x241 h242 =>
 kPick x228 x241 qf fun x244 =>
 some (x244, h242)) fun j243 =>
 wtS x228 true (kBin .leq x238 (qi 80) fun x245 =>
 j243 x245 h239) (j243 u h239)) fun j240 =>
 wtS x228 true (kP (lenV true x235) fun x246 =>
 j240 x246 h236) (j240 u h236)) fun j237 =>
 wtS x228 true (kL1 x232 h233 fun x247 =>
 j237 x247 h233) (j237 u h233)) fun j234 =>
 wtS x228 true (kFA 1 x229 fun x248 =>
 j234 x248 h230) (j234 u h230)) fun j231 =>
 wtS x228 true (kFA 129 x2 fun x249 =>
 j231 x249 h226) (j231 u h226)) fun j227 =>
 wtS x215 true (kBin .leq x222 (qb 3) fun x250 =>
 j227 x250 h223) (j227 u h223)) fun j224 =>
 wtS x215 true (kL1 x219 h220 fun x251 =>
 j224 x251 h220) (j224 u h220)) fun j221 =>
 wtS x215 true (kFA 0 x216 fun x252 =>
 j221 x252 h217) (j221 u h217)) fun j218 =>
 wtS x215 true (kFA 129 x2 fun x253 =>
 j218 x253 h213) (j218 u h213)) fun j214 =>
 wtS x193 true (kPick x203 qt x209 fun x254 =>
 j214 x254 h210) (j214 u h210)) fun j211 =>
 wtS x203 false (kCall X 81 [x206] h207 fun x255 h256 =>
 j211 x255 h256) (j211 u h207)) fun j208 =>
 wtS x203 false (kLA 131 x2 h204 fun x257 =>
 j208 x257 h204) (j208 u h204)) fun j205 =>
 wtS x193 true (j205 x200 h201) (j205 u h201)) fun j202 =>
 wtS x193 true (kNot x197 fun x258 =>
 j202 x258 h198) (j202 u h198)) fun j199 =>
 wtS x193 true (kL1 x194 h195 fun x259 =>
 j199 x259 h195) (j199 u h195)) fun j196 =>
 wtS x193 true (kFA 9 x28 fun x260 =>
 j196 x260 h191) (j196 u h191)) fun j192 =>
 wtS x186 true (kCall X 80 [x187] h188 fun x261 h262 =>
 j192 x261 h262) (j192 u h188)) fun j189 =>
 wtS x186 true (kLA 131 x2 h184 fun x263 =>
 j189 x263 h184) (j189 u h184)) fun j185 =>
 wtS x161 true (kPick x171 qt x180 fun x264 =>
 j185 x264 h181) (j185 u h181)) fun j182 =>
 wtS x171 false (kCall X 79 [x177] h178 fun x265 h266 =>
 j182 x265 h266) (j182 u h178)) fun j179 =>
 wtS x171 false (kLA 8 x174 h175 fun x267 =>
 j179 x267 h175) (j179 u h175)) fun j176 =>
 wtS x171 false (kFA 114 x2 fun x268 =>
 j176 x268 h172) (j176 u h172)) fun j173 =>
 wtS x161 true (j173 x168 h169) (j173 u h169)) fun j170 =>
 wtS x161 true (kNot x165 fun x269 =>
 j170 x269 h166) (j170 u h166)) fun j167 =>
 wtS x161 true (kL1 x162 h163 fun x270 =>
 j167 x270 h163) (j167 u h163)) fun j164 =>
 wtS x161 true (kFA 7 x28 fun x271 =>
 j164 x271 h159) (j164 u h159)) fun j160 =>
 wtS x136 true (kPick x146 qt x155 fun x272 =>
 j160 x272 h156) (j160 u h156)) fun j157 =>
 wtS x146 false (kCall X 78 [x152] h153 fun x273 h274 =>
 j157 x273 h274) (j157 u h153)) fun j154 =>
 wtS x146 false (kLA 52 x149 h150 fun x275 =>
 j154 x275 h150) (j154 u h150)) fun j151 =>
 wtS x146 false (kFA 62 x2 fun x276 =>
 j151 x276 h147) (j151 u h147)) fun j148 =>
 wtS x136 true (j148 x143 h144) (j148 u h144)) fun j145 =>
 wtS x136 true (kNot x140 fun x277 =>
 j145 x277 h141) (j145 u h141)) fun j142 =>
 wtS x136 true (kL1 x137 h138 fun x278 =>
 j142 x278 h138) (j142 u h138)) fun j139 =>
 wtS x136 true (kFA 6 x28 fun x279 =>
 j139 x279 h134) (j139 u h134)) fun j135 =>
 wtS x111 true (kPick x121 qt x130 fun x280 =>
 j135 x280 h131) (j135 u h131)) fun j132 =>
 wtS x121 false (kCall X 50 [x127] h128 fun x281 h282 =>
 j132 x281 h282) (j132 u h128)) fun j129 =>
 wtS x121 false (kLA 49 x124 h125 fun x283 =>
 j129 x283 h125) (j129 u h125)) fun j126 =>
 wtS x121 false (kFA 13 x2 fun x284 =>
 j126 x284 h122) (j126 u h122)) fun j123 =>
 wtS x111 true (j123 x118 h119) (j123 u h119)) fun j120 =>
 wtS x111 true (kNot x115 fun x285 =>
 j120 x285 h116) (j120 u h116)) fun j117 =>
 wtS x111 true (kL1 x112 h113 fun x286 =>
 j117 x286 h113) (j117 u h113)) fun j114 =>
 wtS x111 true (kFA 5 x28 fun x287 =>
 j114 x287 h109) (j114 u h109)) fun j110 =>
 wtS x101 true (kBin .lss x105 (qb 4) fun x288 =>
 j110 x288 h106) (j110 u h106)) fun j107 =>
 wtS x101 true (kL1 x102 h103 fun x289 =>
 j107 x289 h103) (j107 u h103)) fun j104 =>
 wtS x101 true (kFA 12 x2 fun x290 =>
 j104 x290 h99) (j104 u h99)) fun j100 =>
 wtS x79 true (kPick x89 qt x95 fun x291 =>
 j100 x291 h96) (j100 u h96)) fun j97 =>
 wtS x89 false (kCall X 77 [x92] h93 fun x292 h293 =>
 j97 x292 h293) (j97 u h93)) fun j94 =>
 wtS x89 false (kLA 131 x2 h90 fun x294 =>
 j94 x294 h90) (j94 u h90)) fun j91 =>
 wtS x79 true (j91 x86 h87) (j91 u h87)) fun j88 =>
 wtS x79 true (kNot x83 fun x295 =>
 j88 x295 h84) (j88 u h84)) fun j85 =>
 wtS x79 true (kL1 x80 h81 fun x296 =>
 j85 x296 h81) (j85 u h81)) fun j82 =>
 wtS x79 true (kFA 3 x28 fun x297 =>
 j82 x297 h77) (j82 u h77)) fun j78 =>
 wtS x57 true (kPick x67 qt x73 fun x298 =>
 j78 x298 h74) (j78 u h74)) fun j75 =>
 wtS x67 false (kCall X 76 [x70] h71 fun x299 h300 =>
 j75 x299 h300) (j75 u h71)) fun j72 =>
 wtS x67 false (kLA 131 x2 h68 fun x301 =>
 j72 x301 h68) (j72 u h68)) fun j69 =>
 wtS x57 true (j69 x64 h65) (j69 u h65)) fun j66 =>
 wtS x57 true (kNot x61 fun x302 =>
 j66 x302 h62) (j66 u h62)) fun j63 =>
 wtS x57 true (kL1 x58 h59 fun x303 =>
 j63 x303 h59) (j63 u h59)) fun j60 =>
 wtS x57 true (kFA 1 x28 fun x304 =>
 j60 x304 h55) (j60 u h55)) fun j56 =>
 wtS x34 true (kPick x45 qt x51 fun x305 =>
 j56 x305 h52) (j56 u h52)) fun j53 =>
 wtS x45 false (kCall X 75 [x48] h49 fun x306 h307 =>
 j53 x306 h307) (j53 u h49)) fun j50 =>
 wtS x45 false (kLA 131 x2 h46 fun x308 =>
 j50 x308 h46) (j50 u h46)) fun j47 =>
 wtS x34 true (j47 x42 h43) (j47 u h43)) fun j44 =>
 wtS x34 true (kNot x39 fun x309 =>
 j44 x309 h40) (j44 u h40)) fun j41 =>
 wtS x34 true (kL1 x36 h37 fun x310 =>
 j41 x310 h37) (j41 u h37)) fun j38 =>
 wtS x34 true (kFA 0 x28 fun x311 =>
 j38 x311 h35) (j38 u h35))) fun j22 =>
 wtS x7 false (kEqI false x11 x17 fun x312 =>
 j22 x312 h18) (j22 u h18)) fun j19 =>
 wtS x7 false (kL1 x14 h15 fun x313 =>
 j19 x313 h15) (j19 u h15)) fun j16 =>
 wtS x7 false (kFA 2 x2 fun x314 =>
 j16 x314 h12) (j16 u h12)) fun j13 =>
 wtS x7 false (kL1 x8 h9 fun x315 =>
 j13 x315 h9) (j13 u h9)) fun j10 =>
 wtS x7 false (kFA 1 x2 fun x316 =>
 j10 x316 h6) (j10 u h6))
theorem p38_ok (k : Nat) : p38 k = funcS k 1 lit38 := by kernel_rfl
def p41 (k : Nat) : CtxK → List V → TH → R := fun X => ap 3 (fun x0 x1 x2 h3 =>
 kCall X 84 [x1] h3 fun x4 h5 =>
 kCall X 83 [x4] h5 fun x6 h7 =>
 kLen x6 fun x8 =>
 lp (α := Cur 32) (zN 32) (fun n42 x9 _ x11 _ _ _ _ x16 _ _ _ _ x21 x22 x23 _ _ _ _ _ _ _ _ _ _ _ _ _ _ _ _ _ h41 =>
 kBin .lss x23 x22 fun x43 =>
 brS x43 (kIS 1 x21 x23 fun x44 =>
 kL1 x44 h41 fun x45 =>
 kNilc x9 fun x46 =>
 kFA 0 x46 fun x47 =>
 kL1 x47 h41 fun x48 =>
 kEqI true x45 x48 fun x49 =>
 jc (α := Cur 32) (fun x50 _ x52 _ _ _ _ x57 _ _ _ _ x62 x63 x64 _ _ _ _ _ _ _ _ _ _ _ _ _ _ _ _ _ h82 =>
 kBin .add x64 (qi 1) fun x84 =>
 n42 x50 u x52 u u u u x57 u u u u x62 x63 x84 u u u u u u u u u u u u u u u u u h82) fun j83 =>
 brS x49 (kCv X x11 [x45] h41 fun x85 h86 =>
 kBS 131 zr1 1 [(0, 131, x85)] h86 fun x87 h88 =>
 kAp 131 1400 x16 x87 h88 fun x89 h90 =>
 j83 x9 u x11 u u u u x89 u u u u x21 x22 x23 u u u u u u u u u u u u u u u u u h90) (j83 x9 u x11 u u u u x16 u u u u x21 x22 x23 u u u u u u u u u u u u u u u u u h41)) (some (x16, h41))) k x0 u x2 u u u u .nils u u u u x6 x8 (qi 0) u u u u u u u u u u u u u u u u u h7)
theorem p41_ok (k : Nat) : p41 k = funcS k 3 lit41 := by kernel_rfl
def p42 (_ : Nat) : CtxK → List V → TH → R := fun X => ap 2 (fun x0 x1 h2 =>
 kNew (V.cellsR x1) h2 fun x3 h4 =>
 kCall X 34 [x0] h4 fun x5 h6 =>
 kCall X 85 [x5, (.fn 86 [] [x3])] h6 fun x7 h8 =>
 some (x7, h8))
theorem p42_ok (k : Nat) : p42 k = funcS k 2 lit42 := by kernel_rfl
def p45 (_ : Nat) : CtxK → List V → TH → R := fun X => ap 2 (fun x0 x1 h2 =>
 kNew zr1 h2 fun x3 h4 =>
 kCall X 89 [x0, (qb 9), x1] h4 fun x5 h6 =>
 kNew zr1 h6 fun x7 h8 =>
 kSA 131 x7 x5 h8 fun _ h10 =>
 kNilc x0 fun x11 =>
 kFA 64 x11 fun x12 =>
 kIA 5 49 x12 x1 fun x13 =>
 kLA 49 x13 h10 fun x16 =>
 kNilc x0 fun x17 =>
 kFA 3 x17 fun x18 =>
 kLA 49 x18 h10 fun x21 =>
 kCall X 90 [x16, x21] h10 fun x22 h23 =>
 kFA 62 x7 fun x24 =>
 kSA 52 x24 x22 h23 fun _ h26 =>
 dokS [h10, h23, h26] [] (kLA 131 x7 h26 fun x27 =>
 kSA 131 x3 x27 h26 fun _ h29 =>
 rsS [.cell 4 true 131] [x0, x1, u, u, x3, x7, x0, x1, x5, x0, x1, x11, x12, x13, x16, x0, x17, x18, x21, x22, x24, x27] h29))
theorem p45_ok (k : Nat) : p45 k = funcS k 2 lit45 := by kernel_rfl
def p50 (k : Nat) : CtxK → List V → TH → R := fun X => ap 1 (fun x0 h1 =>
 kNew (V.cellsR x0) h1 fun x2 h3 =>
 kFA 0 x2 fun x4 =>
 kL1 x4 h3 fun x5 =>
 kBin .gtr x5 (qw 60) fun x6 =>
 jc (α := JT) (fun x7 h8 =>
 jc (α := JT) (fun x10 h11 =>
 jc (α := JT) (fun x13 h14 =>
 jc (α := JT) (fun x16 h17 =>
 kPick x6 qt x16 fun x19 =>
 jc (α := JT) (fun x20 h21 =>
 jc (α := JT) (fun x23 h24 =>
 jc (α := JT) (fun x26 h27 =>
 jc (α := JT) (fun x29 h30 =>
 jc (α := JT) (fun x32 h33 =>
 kPick x19 qt x32 fun x35 =>
 jc (α := JT) (fun x36 h37 =>
 jc (α := JT) (fun x39 h40 =>
 jc (α := JT) (fun x42 h43 =>
 jc (α := JT) (fun x45 h46 =>
 kPick x35 qt x45 fun x48 =>
 jc (α := JT) (fun x49 h50 =>
 jc (α := JT) (fun x52 h53 =>
 jc (α := JT) (fun x55 h56 =>
 jc (α := JT) (fun x58 h59 =>
 kPick x48 qt x58 fun x61 =>
 brS x61 (some (qf, h59)) (kFA 40 x2 fun x62 =>
 kLA 8 x62 h59 fun x63 =>
 kNew zr2 h59 fun x64 h65 =>
 kSA 8 x64 x63 h65 fun _ h67 =>
 kFA 48 x2 fun x68 =>
 kL1 x68 h67 fun x69 =>
 kLen x69 fun x70 =>
 lp (α := Cur 49) (zN 49) (fun n121 _ _ _ x74 _ _ _ _ _ _ _ _ _ _ _ _ _ _ _ _ _ _ _ _ _ _ _ _ _ _ _ _ _ _ _ _ _ x108 x109 x110 _ _ _ _ _ _ _ _ _ h120 =>
 kBin .lss x110 x109 fun x122 =>
 brS x122 (kIS 8 x108 x110 fun x123 =>
 kLA 8 x123 h120 fun x124 =>
 kNew zr2 h120 fun x125 h126 =>
 kSA 8 x125 x124 h126 fun _ h128 =>
 kLA 8 x74 h128 fun x129 =>
 kLA 8 x125 h128 fun x130 =>
 kCall X 92 [x129, x130] h128 fun x131 h132 =>
 kNot x131 fun x133 =>
 brS x133 (some (qf, h132)) (kLA 8 x125 h132 fun x134 =>
 kSA 8 x74 x134 h132 fun _ h136 =>
 kBin .add x110 (qi 1) fun x137 =>
 n121 u u u x74 u u u u u u u u u u u u u u u u u u u u u u u u u u u u u u u u u x108 x109 x137 u u u u u u u u u h136)) (some (qt, h120))) k u u u x64 u u u u u u u u u u u u u u u u u u u u u u u u u u u u u u u u u x69 x70 (qi 0) u u u u u u u u u h67)) fun j60 =>
 wtS x48 false (kNot x55 fun x138 =>
 j60 x138 h56) (j60 u h56)) fun j57 =>
 wtS x48 false (kCall X 91 [x52] h53 fun x139 h140 =>
 j57 x139 h140) (j57 u h53)) fun j54 =>
 wtS x48 false (kLA 39 x49 h50 fun x141 =>
 j54 x141 h50) (j54 u h50)) fun j51 =>
 wtS x48 false (kFA 1 x2 fun x142 =>
 j51 x142 h46) (j51 u h46)) fun j47 =>
 wtS x35 false (kBin .gtr x42 (qi 6) fun x143 =>
 j47 x143 h43) (j47 u h43)) fun j44 =>
 wtS x35 false (kLen x39 fun x144 =>
 j44 x144 h40) (j44 u h40)) fun j41 =>
 wtS x35 false (kL1 x36 h37 fun x145 =>
 j41 x145 h37) (j41 u h37)) fun j38 =>
 wtS x35 false (kFA 48 x2 fun x146 =>
 j38 x146 h33) (j38 u h33)) fun j34 =>
 wtS x19 false (kEq' true (.agg [.int, .int, .int, .int, .int, .str]) x26 x29 fun x147 =>
 j34 x147 h30) (j34 u h30)) fun j31 =>
 wtS x19 false (kB [(qb 0), (qw 0), (qb 0), (qb 0), (qb 0), qs] [] fun x148 =>
 j31 x148 h27) (j31 u h27)) fun j28 =>
 wtS x19 false (kLA 6 x23 h24 fun x149 =>
 j28 x149 h24) (j28 u h24)) fun j25 =>
 wtS x19 false (kFA 2 x20 fun x150 =>
 j25 x150 h21) (j25 u h21)) fun j22 =>
 wtS x19 false (kFA 40 x2 fun x151 =>
 j22 x151 h17) (j22 u h17)) fun j18 =>
 wtS x6 false (kBin .gtr x13 (qw 60) fun x152 =>
 j18 x152 h14) (j18 u h14)) fun j15 =>
 wtS x6 false (kL1 x10 h11 fun x153 =>
 j15 x153 h11) (j15 u h11)) fun j12 =>
 wtS x6 false (kFA 0 x7 fun x154 =>
 j12 x154 h8) (j12 u h8)) fun j9 =>
 wtS x6 false (kFA 40 x2 fun x155 =>
 j9 x155 h3) (j9 u h3))
theorem p50_ok (k : Nat) : p50 k = funcS k 1 lit50 := by kernel_rfl
def p52 (k : Nat) : CtxK → List V → TH → R := fun X => ap 2 (fun x0 x1 h2 =>
 kNew (V.cellsR x0) h2 fun x3 h4 =>
 kNew zr0 h4 fun x5 h6 =>
 kFA 48 x3 fun x7 =>
 kL1 x7 h6 fun x8 =>
 kP (sliceE 8 x8 none (some x1)) fun x9 =>
 kLen x9 fun x10 =>
 lp (α := Cur 39) (zN 39) (fun n51 x11 x12 x13 x14 x15 x16 x17 x18 x19 x20 x21 x22 x23 _ x25 x26 x27 x28 x29 x30 x31 x32 x33 x34 x35 x36 x37 x38 x39 x40 x41 x42 _ _ _ _ _ _ _ h50 =>
 kBin .lss x23 x22 fun x52 =>
 brS x52 (kIS 8 x21 x23 fun x53 =>
 kLA 8 x53 h50 fun x54 =>
 kNew zr2 h50 fun x55 h56 =>
 kSA 8 x55 x54 h56 fun _ h58 =>
 kFA 1 x13 fun x59 =>
 kLA 39 x59 h58 fun x60 =>
 kFA 2 x55 fun x61 =>
 kLA 6 x61 h58 fun x62 =>
 kCall X 93 [x60, x62] h58 fun x63 h64 =>
 kExt x63 0 fun x65 =>
 kExt x63 1 fun _ =>
 kFA 1 x13 fun x67 =>
 kSA 39 x67 x65 h64 fun _ h69 =>
 kFA 0 x55 fun x70 =>
 kL1 x70 h69 fun x71 =>
 kFA 1 x55 fun x72 =>
 kL1 x72 h69 fun x73 =>
 kB zr2 [(0, 1, x71), (1, 1, x73)] fun x74 =>
 kFA 40 x13 fun x75 =>
 kSA 8 x75 x74 h69 fun _ h77 =>
 kBin .add x23 (qi 1) fun x78 =>
 n51 u x12 x13 u x15 u u u u u x21 x22 x78 u u u u u u u u u u u u u u u u u u u u u u u u u u h77) (kFA 48 x13 fun x79 =>
 kL1 x79 h50 fun x80 =>
 kP (sliceE 8 x80 (some x12) none) fun x81 =>
 kCall X 94 [x81] h50 fun x82 h83 =>
 kFA 48 x13 fun x84 =>
 kS1 x84 x82 h83 fun _ h86 =>
 kLA 49 x13 h86 fun x87 =>
 kSA 49 x15 x87 h86 fun _ h89 =>
 rsS [.cell 4 true 49] [x11, x12, x13, x14, x15, x16, x17, x18, x19, x20, x21, x22, x23, x52, x25, x26, x27, x28, x29, x30, x31, x32, x33, x34, x35, x36, x37, x38, x39, x40, x41, x42, x79, x80, x12, x81, x82, x84, x87] h89)) k u x1 x3 u x5 u u u u u x9 x10 (qi 0) u u u u u u u u u u u u u u u u u u u u u u u u u u h6)
theorem p52_ok (k : Nat) : p52 k = funcS k 2 lit52 := by kernel_rfl
def p56 (k : Nat) : CtxK → List V → TH → R := fun X => ap 2 (fun x0 x1 h2 =>
 kNilc x0 fun x3 =>
 kFA 54 x3 fun x4 =>
 kLA 5 x4 h2 fun x5 =>
 lp (α := Cur 79) (zN 79) (fun n86 x6 x7 _ _ _ x11 x12 _ _ _ _ _ x18 x19 _ _ _ _ _ _ _ _ _ _ _ _ _ _ _ _ _ _ _ _ _ _ _ _ _ _ _ _ _ _ _ _ _ _ _ _ _ _ _ _ _ _ _ _ _ _ _ _ _ _ _ _ _ _ _ _ _ _ _ _ _ _ _ _ _ h85 =>
 kBin .lss x19 (qi 5) fun x87 =>
 brS x87 (kIx 5 x18 x19 fun x88 =>
 jc (α := Cur 79) (fun x89 x90 _ _ _ x94 x95 _ _ _ _ _ x101 x102 _ _ _ _ _ _ _ _ _ _ _ _ _ _ _ _ _ _ _ _ _ _ _ _ _ _ _ _ _ _ _ _ _ _ _ _ _ _ _ _ _ _ _ _ _ _ _ _ _ _ _ _ _ _ _ _ _ _ _ _ _ _ _ _ _ h168 =>
 kBin .add x102 (qi 1) fun x170 =>
 n86 x89 x90 u u u x94 x95 u u u u u x101 x170 u u u u u u u u u u u u u u u u u u u u u u u u u u u u u u u u u u u u u u u u u u u u u u u u u u u u u u u u u u u u u u u u u h168) fun j169 =>
 brS x88 (kBS 1 [(qi 0)] 1 [(0, 1, x19)] h85 fun x171 h172 =>
 kNilc x6 fun x173 =>
 kFA 64 x173 fun x174 =>
 kIA 5 49 x174 x19 fun x175 =>
 kLA 49 x175 h172 fun x178 =>
 kBS 49 zr0 1 [(0, 49, x178)] h172 fun x179 h180 =>
 kAp 1 8 x11 x171 h180 fun x181 h182 =>
 kAp 49 600 x12 x179 h182 fun x183 h184 =>
 dokS [h180, h182, h184] ((fun h176 => kLA 49 x175 h176 fun x177 =>
 some (x177, h176), x178, 0, 1) :: []) (j169 x6 x7 u u u x181 x183 u u u u u x18 x19 u u u u u u u u u u u u u u u u u u u u u u u u u u u u u u u u u u u u u u u u u u u u u u u u u u u u u u u u u u u u u u u u u h184)) (j169 x6 x7 u u u x11 x12 u u u u u x18 x19 u u u u u u u u u u u u u u u u u u u u u u u u u u u u u u u u u u u u u u u u u u u u u u u u u u u u u u u u u u u u u u u u u h85)) (kNilc x6 fun x185 =>
 kFA 2 x185 fun x186 =>
 kL1 x186 h85 fun x189 =>
 kCall X 97 [x12] h85 fun x190 h191 =>
 kCall X 96 [x7, x189, x11, x190] h191 fun x192 h193 =>
 kNot x192 fun x194 =>
 dokS [h85, h191, h193] ((fun h187 => kL1 x186 h187 fun x188 =>
 some (x188, h187), x189, 0, 1) :: []) (brS x194 (some (.nils, h193)) (kCall X 98 [x11, x12] h193 fun x195 h196 =>
 kIS 49 x12 x195 fun x197 =>
 kLA 49 x197 h196 fun x198 =>
 kCall X 36 [x198] h196 fun x199 h200 =>
 kNilc x6 fun x201 =>
 kFA 3 x201 fun x202 =>
 kSA 49 x202 x199 h200 fun _ h204 =>
 kNilc x6 fun x205 =>
 kFA 52 x205 fun x206 =>
 kL1 x206 h204 fun x207 =>
 kNilc x6 fun x208 =>
 kFA 3 x208 fun x209 =>
 kFA 0 x209 fun x210 =>
 kS1 x210 x207 h204 fun _ h212 =>
 kNilc x6 fun x213 =>
 kFA 1 x213 fun x214 =>
 kS1 x214 (qi 3) h212 fun _ h216 =>
 kNilc x6 fun x217 =>
 kFA 0 x217 fun x218 =>
 kL1 x218 h216 fun x221 =>
 kNilc x6 fun x222 =>
 kFA 59 x222 fun x223 =>
 kIA 5 1 x223 x221 fun x224 =>
 kS1 x224 qt h216 fun _ h226 =>
 dokS [h216, h226] [] (kNilc x6 fun x227 =>
 kFA 53 x227 fun x228 =>
 kL1 x228 h226 fun x229 =>
 kCall X 41 [x6, x229, (.fn 45 [x6] [])] h226 fun x230 h231 =>
 some (x230, h231)))))) k x0 x1 u u u .nils .nils u u u u u x5 (qi 0) u u u u u u u u u u u u u u u u u u u u u u u u u u u u u u u u u u u u u u u u u u u u u u u u u u u u u u u u u u u u u u u u u h2)
theorem p56_ok (k : Nat) : p56 k = funcS k 2 lit56 := by kernel_rfl
def p58 (_ : Nat) : CtxK → List V → TH → R := fun _ => ap 1 (fun x0 h1 =>
 kNilc x0 fun x2 =>
 kFA 2 x2 fun x3 =>
 kL1 x3 h1 fun x4 =>
 some (x4, h1))
theorem p58_ok (k : Nat) : p58 k = funcS k 1 lit58 := by kernel_rfl
def p60 (k : Nat) : CtxK → List V → TH → R := fun _ => ap 0 (fun  h0 =>
 kNew zr5 h0 fun x1 h2 =>
 kB zr5 [(0, 1, (qw 1))] fun x3 =>
 kNew zr5 h2 fun x4 h5 =>
 kSA 16 x4 x3 h5 fun _ h7 =>
 lp (α := Cur 16) (zN 16) (fun n25 x8 x9 x10 x11 x12 _ x14 x15 x16 x17 x18 x19 x20 x21 x22 _ h24 =>
 kBin .lss x12 (qi 5) fun x26 =>
 brS x26 (kBin .rem x12 (qi 4) fun x27 =>
 kConv .u8 x27 fun x28 =>
 kB [qf, (qi 0), (qb 0)] [(0, 1, qt), (1, 1, (qi 8)), (2, 1, x28)] fun x29 =>
 kFA 1 x9 fun x30 =>
 kIA 5 3 x30 x12 fun x31 =>
 kSA 3 x31 x29 h24 fun _ h33 =>
 kBin .add x12 (qi 1) fun x34 =>
 n25 x8 x9 u u x34 u u u u u u u u u u u h33) (kLA 16 x9 h24 fun x35 =>
 kSA 16 x8 x35 h24 fun _ h37 =>
 rsS [.cell 0 true 16] [x8, x9, x10, x11, x12, x26, x14, x15, x16, x17, x18, x19, x20, x21, x22, x35] h37)) k x1 x4 u u (qi 0) u u u u u u u u u u u h7)
theorem p60_ok (k : Nat) : p60 k = funcS k 0 lit60 := by kernel_rfl
def p73 (_ : Nat) : CtxK → List V → TH → R := fun X => ap 1 (fun x0 h1 =>
 kNew zr3 h1 fun x2 h3 =>
 kEqI false x0 (qb 1) fun x4 =>
 jc (α := Cur 32) (fun x5 x6 x7 x8 x9 x10 x11 x12 x13 x14 x15 x16 x17 x18 x19 x20 x21 x22 x23 x24 x25 x26 x27 x28 x29 x30 x31 x32 x33 x34 x35 x36 h37 =>
 brS x9 (kB zr3 [(0, 1, qt), (1, 1, qt)] fun x39 =>
 kSA 11 x7 x39 h37 fun _ h41 =>
 rsS [.cell 2 true 11] [x5, x6, x7, x8, x9, x10, x11, x12, x39, x14, x15, x16, x17, x18, x19, x20, x21, x22, x23, x24, x25, x26, x27, x28, x29, x30, x31, x32, x33, x34, x35, x36] h41) (kEqI false x8 (qb 2) fun x42 =>
 brS x42 (kB zr3 [(0, 1, qt), (1, 1, qt), (2, 1, qt), (3, 1, qt)] fun x43 =>
 kSA 11 x7 x43 h37 fun _ h45 =>
 rsS [.cell 2 true 11] [x5, x6, x7, x8, x9, x10, x11, x12, x13, x42, x42, x43, x17, x18, x19, x20, x21, x22, x23, x24, x25, x26, x27, x28, x29, x30, x31, x32, x33, x34, x35, x36] h45) (kEqI false x8 (qb 3) fun x46 =>
 brS x46 (kB zr3 [(0, 1, qt), (1, 1, qt), (3, 1, qt)] fun x47 =>
 kSA 11 x7 x47 h37 fun _ h49 =>
 rsS [.cell 2 true 11] [x5, x6, x7, x8, x9, x10, x11, x12, x13, x42, x42, x16, x46, x46, x47, x20, x21, x22, x23, x24, x25, x26, x27, x28, x29, x30, x31, x32, x33, x34, x35, x36] h49) (kEqI false x8 (qb 5) fun x50 =>
 brS x50 (kB zr3 [(0, 1, qt), (3, 1, qt)] fun x51 =>
 kSA 11 x7 x51 h37 fun _ h53 =>
 rsS [.cell 2 true 11] [x5, x6, x7, x8, x9, x10, x11, x12, x13, x42, x42, x16, x46, x46, x19, x50, x50, x51, x23, x24, x25, x26, x27, x28, x29, x30, x31, x32, x33, x34, x35, x36] h53) (kEqI false x8 (qb 6) fun x54 =>
 brS x54 (kB zr3 [(0, 1, qt)] fun x55 =>
 kSA 11 x7 x55 h37 fun _ h57 =>
 rsS [.cell 2 true 11] [x5, x6, x7, x8, x9, x10, x11, x12, x13, x42, x42, x16, x46, x46, x19, x50, x50, x22, x54, x54, x55, x26, x27, x28, x29, x30, x31, x32, x33, x34, x35, x36] h57) (kEqI false x8 (qb 17) fun x58 =>
 brS x58 (kB zr3 [(8, 1, qt)] fun x59 =>
 kSA 11 x7 x59 h37 fun _ h61 =>
 rsS [.cell 2 true 11] [x5, x6, x7, x8, x9, x10, x11, x12, x13, x42, x42, x16, x46, x46, x19, x50, x50, x22, x54, x54, x25, x58, x58, x59, x29, x30, x31, x32, x33, x34, x35, x36] h61) (kEqI false x8 (qb 15) fun x62 =>
 brS x62 (kB zr3 [(9, 1, qt)] fun x63 =>
 kSA 11 x7 x63 h37 fun _ h65 =>
 rsS [.cell 2 true 11] [x5, x6, x7, x8, x9, x10, x11, x12, x13, x42, x42, x16, x46, x46, x19, x50, x50, x22, x54, x54, x25, x58, x58, x28, x62, x62, x63, x32, x33, x34, x35, x36] h65) (kEqI false x8 (qb 16) fun x66 =>
 brS x66 (kB zr3 [(9, 1, qt), (10, 1, qt)] fun x67 =>
 kSA 11 x7 x67 h37 fun _ h69 =>
 rsS [.cell 2 true 11] [x5, x6, x7, x8, x9, x10, x11, x12, x13, x42, x42, x16, x46, x46, x19, x50, x50, x22, x54, x54, x25, x58, x58, x28, x62, x62, x31, x66, x66, x67, x35, x36] h69) (kCall X 119 [x5] h37 fun x70 h71 =>
 kSA 11 x7 x70 h71 fun _ h73 =>
 rsS [.cell 2 true 11] [x5, x6, x7, x8, x9, x10, x11, x12, x13, x42, x42, x16, x46, x46, x19, x50, x50, x22, x54, x54, x25, x58, x58, x28, x62, x62, x31, x66, x66, x34, x5, x70] h73))))))))) fun j38 =>
 brS x4 (j38 x0 u x2 x0 x4 u u u u u u u u u u u u u u u u u u u u u u u u u u u h3) (kEqI false x0 (qb 4) fun x74 =>
 jc (α := Cur 32) (fun x75 _ x77 x78 x79 _ _ _ _ _ _ _ _ _ _ _ _ _ _ _ _ _ _ _ _ _ _ _ _ _ _ _ h107 =>
 j38 x75 u x77 x78 x79 u u u u u u u u u u u u u u u u u u u u u u u u u u u h107) fun j108 =>
 brS x74 (j108 x0 u x2 x0 x74 u u u u u u u u u u u u u u u u u u u u u u u u u u u h3) (kEqI false x0 (qb 18) fun x109 =>
 j108 x0 u x2 x0 x109 u u u u u u u u u u u u u u u u u u u u u u u u u u u h3)))
theorem p73_ok (k : Nat) : p73 k = funcS k 1 lit73 := by kernel_rfl
def p74 (_ : Nat) : CtxK → List V → TH → R := fun X => ap 2 (fun x0 x1 h2 =>
 kNew (V.cellsR x0) h2 fun x3 h4 =>
 kNew (V.cellsR x1) h4 fun x5 h6 =>
 kFA 62 x3 fun x7 =>
 kFA 2 x7 fun x8 =>
 kL1 x8 h6 fun x9 =>
 kLen x9 fun x10 =>
 kEqI false x10 (qi 0) fun x11 =>
 jc (α := JT) (fun x12 h13 =>
 jc (α := JT) (fun x15 h16 =>
 jc (α := JT) (fun x18 h19 =>
 jc (α := JT) (fun x21 h22 =>
 kPick x11 x21 qf fun x24 =>
 jc (α := JT) (fun x25 h26 =>
 jc (α := JT) (fun x28 h29 =>
 jc (α := JT) (fun x31 h32 =>
 jc (α := JT) (fun x34 h35 =>
 kPick x24 x34 qf fun x37 =>
 jc (α := JT) (fun x38 h39 =>
 jc (α := JT) (fun x41 h42 =>
 jc (α := JT) (fun x44 h45 =>
 jc (α := JT) (fun x47 h48 =>
 jc (α := JT) (fun x50 h51 =>
 kPick x37 x50 qf fun x53 =>
 kFA 0 x5 fun x54 =>
 kL1 x54 h51 fun x57 =>
 jc (α := JT) (fun x58 h59 =>
 jc (α := V → TH → PD → R) (fun x63 h64 d65 =>
 jc (α := JT) (fun x67 h68 =>
 kPick x57 qt x67 fun x70 =>
 kFA 1 x5 fun x71 =>
 kL1 x71 h68 fun x74 =>
 jc (α := JT) (fun x75 h76 =>
 jc (α := V → TH → PD → R) (fun x80 h81 d82 =>
 jc (α := JT) (fun x84 h85 =>
 jc (α := JT) (fun x87 h88 =>
 kPick x74 qt x87 fun x90 =>
 kFA 2 x5 fun x91 =>
 kL1 x91 h88 fun x94 =>
 jc (α := JT) (fun x95 h96 =>
 jc (α := V → TH → PD → R) (fun x100 h101 d102 =>
 jc (α := JT) (fun x104 h105 =>
 jc (α := JT) (fun x107 h108 =>
 jc (α := JT) (fun x110 h111 =>
 jc (α := JT) (fun x113 h114 =>
 jc (α := V → TH → PD → R) (fun x118 h119 d120 =>
 jc (α := JT) (fun x122 h123 =>
 jc (α := JT) (fun x125 h126 =>
 kPick x94 qt x125 fun x128 =>
 kFA 3 x5 fun x129 =>
 kL1 x129 h126 fun x132 =>
 jc (α := JT) (fun x133 h134 =>
 jc (α := V → TH → PD → R) (fun x138 h139 d140 =>
 jc (α := JT) (fun x142 h143 =>
 jc (α := JT) (fun x145 h146 =>
 kPick x132 qt x145 fun x148 =>
 kFA 4 x5 fun x149 =>
 kL1 x149 h146 fun x152 =>
 jc (α := JT) (fun x153 h154 =>
 jc (α := V → TH → PD → R) (fun x158 h159 d160 =>
 jc (α := JT) (fun x162 h163 =>
 kPick x152 qt x162 fun x165 =>
 kFA 5 x5 fun x166 =>
 kL1 x166 h163 fun x169 =>
 jc (α := JT) (fun x170 h171 =>
 jc (α := V → TH → PD → R) (fun x175 h176 d177 =>
 jc (α := JT) (fun x179 h180 =>
 kFA 6 x5 fun x182 =>
 kL1 x182 h180 fun x185 =>
 kFA 7 x5 fun x186 =>
 kL1 x186 h180 fun x189 =>
 kFA 8 x5 fun x190 =>
 kL1 x190 h180 fun x193 =>
 kFA 9 x5 fun x194 =>
 kL1 x194 h180 fun x197 =>
 kFA 10 x5 fun x198 =>
 kL1 x198 h180 fun x201 =>
 jc (α := JT) (fun x202 h203 =>
 kPick x169 qt x202 fun x205 =>
 jc (α := JT) (fun x206 h207 =>
 kPick x185 qt x206 fun x209 =>
 jc (α := JT) (fun x210 h211 =>
 jc (α := V → TH → PD → R) (fun x215 h216 d217 =>
 jc (α := JT) (fun x219 h220 =>
 jc (α := JT) (fun x222 h223 =>
 kPick x189 qt x222 fun x225 =>
 jc (α := JT) (fun x226 h227 =>
 jc (α := V → TH → PD → R) (fun x231 h232 d233 =>
 jc (α := JT) (fun x235 h236 =>
 kPick x193 qt x235 fun x238 =>
 jc (α := JT) (fun x239 h240 =>
 jc (α := V → TH → PD → R) (fun x244 h245 d246 =>
 jc (α := JT) (fun x248 h249 =>
 jc (α := JT) (fun x251 h252 =>
 kPick x197 qt x251 fun x254 =>
 jc (α := JT) (fun x255 h256 =>
 jc (α := V → TH → PD → R) (fun x260 h261 d262 =>
 jc (α := JT) (fun x264 h265 =>
 jc (α := JT) (fun x267 h268 =>
 kPick x201 qt x267 fun x270 =>
 kBS 1 [qf] 11 [(0, 1, x70), (1, 1, x90), (2, 1, x128), (3, 1, x148), (4, 1, x165), (5, 1, x205), (6, 1, x209), (7, 1, x225), (8, 1, x238), (9, 1, x254), (10, 1, x270)] h268 fun x271 h272 =>
 dokS [h180, h272] d262 (kCall X 120 [x271, qf] h272 fun x273 h274 =>
 kNot x273 fun x275 =>
 some (x275, h274))) fun j269 =>
 wtS x201 false (kEq' false (.agg [.int, .str]) x260 x264 fun x276 =>
 j269 x276 h265) (j269 u h265)) fun j266 =>
 wtS x201 false (kB [(qb 0), qs] [] fun x277 =>
 j266 x277 h261) (j266 u h261)) fun j263 =>
 wtS x201 false (kLA 2 x255 h256 fun x278 =>
 j263 x278 h256 d246) (j263 u h256 d246)) fun j257 =>
 wtS x201 false (kFA 129 x3 fun x279 =>
 j257 x279 h252) (j257 u h252)) fun j253 =>
 wtS x197 false (kEq' false (.agg [.int, .int, .int, .int, .int, .str]) x244 x248 fun x280 =>
 j253 x280 h249) (j253 u h249)) fun j250 =>
 wtS x197 false (kB [(qb 0), (qw 0), (qb 0), (qb 0), (qb 0), qs] [] fun x281 =>
 j250 x281 h245) (j250 u h245)) fun j247 =>
 wtS x197 false (kLA 6 x239 h240 fun x282 =>
 j247 x282 h240 d233) (j247 u h240 d233)) fun j241 =>
 wtS x197 false (kFA 123 x3 fun x283 =>
 j241 x283 h236) (j241 u h236)) fun j237 =>
 wtS x193 false (kEqI false x231 (qw 0) fun x284 =>
 j237 x284 h232) (j237 u h232)) fun j234 =>
 wtS x193 false (kL1 x226 h227 fun x285 =>
 j234 x285 h227 d217) (j234 u h227 d217)) fun j228 =>
 wtS x193 false (kFA 122 x3 fun x286 =>
 j228 x286 h223) (j228 u h223)) fun j224 =>
 wtS x189 false (kEq' false (.agg [.int, .int, .int, .int, .int, .int, .int, .str]) x215 x219 fun x287 =>
 j224 x287 h220) (j224 u h220)) fun j221 =>
 wtS x189 false (kB zr2 [] fun x288 =>
 j221 x288 h216) (j221 u h216)) fun j218 =>
 wtS x189 false (kLA 8 x210 h211 fun x289 =>
 j218 x289 h211 ((fun h199 => kL1 x198 h199 fun x200 =>
 some (x200, h199), x201, 0, 1) :: ((fun h195 => kL1 x194 h195 fun x196 =>
 some (x196, h195), x197, 0, 1) :: ((fun h191 => kL1 x190 h191 fun x192 =>
 some (x192, h191), x193, 0, 1) :: ((fun h187 => kL1 x186 h187 fun x188 =>
 some (x188, h187), x189, 0, 1) :: ((fun h183 => kL1 x182 h183 fun x184 =>
 some (x184, h183), x185, 0, 1) :: d177)))))) (j218 u h211 ((fun h199 => kL1 x198 h199 fun x200 =>
 some (x200, h199), x201, 0, 1) :: ((fun h195 => kL1 x194 h195 fun x196 =>
 some (x196, h195), x197, 0, 1) :: ((fun h191 => kL1 x190 h191 fun x192 =>
 some (x192, h191), x193, 0, 1) :: ((fun h187 => kL1 x186 h187 fun x188 =>
 some (x188, h187), x189, 0, 1) :: ((fun h183 => kL1 x182 h183 fun x184 =>
 some (x184, h183), x185, 0, 1) :: d177))))))) fun j212 =>
 wtS x189 false (kFA 114 x3 fun x290 =>
 j212 x290 h207) (j212 u h207)) fun j208 =>
 wtS x185 false (j208 x53 h203) (j208 u h203)) fun j204 =>
 wtS x169 false (kCall X 15 [x175, x179] h180 fun x291 h292 =>
 j204 x291 h292) (j204 u h180)) fun j181 =>
 wtS x169 false (kB zr0 [] fun x293 =>
 j181 x293 h176) (j181 u h176)) fun j178 =>
 wtS x169 false (kLA 49 x170 h171 fun x294 =>
 j178 x294 h171 d160) (j178 u h171 d160)) fun j172 =>
 wtS x169 false (kFA 13 x3 fun x295 =>
 j172 x295 h163) (j172 u h163)) fun j164 =>
 wtS x152 false (kEqI false x158 (qb 0) fun x296 =>
 j164 x296 h159) (j164 u h159)) fun j161 =>
 wtS x152 false (kL1 x153 h154 fun x297 =>
 j161 x297 h154 ((fun h156 => kL1 x153 h156 fun x157 =>
 some (x157, h156), x297, 0, 1) :: d140)) (j161 u h154 d140)) fun j155 =>
 wtS x152 false (kFA 12 x3 fun x298 =>
 j155 x298 h146) (j155 u h146)) fun j147 =>
 wtS x132 false (kEq' false (.agg [.int, .int, .int]) x138 x142 fun x299 =>
 j147 x299 h143) (j147 u h143)) fun j144 =>
 wtS x132 false (kB [(qb 0), (qb 0), (qi 0)] [] fun x300 =>
 j144 x300 h139) (j144 u h139)) fun j141 =>
 wtS x132 false (kLA 3 x133 h134 fun x301 =>
 j141 x301 h134 ((fun h136 => kLA 3 x133 h136 fun x137 =>
 some (x137, h136), x301, 0, 1) :: d120)) (j141 u h134 d120)) fun j135 =>
 wtS x132 false (kFA 9 x3 fun x302 =>
 j135 x302 h126) (j135 u h126)) fun j127 =>
 wtS x94 false (kPick x110 x122 qf fun x303 =>
 j127 x303 h123) (j127 u h123)) fun j124 =>
 wtS x110 true (kNot x118 fun x304 =>
 j124 x304 h119) (j124 u h119)) fun j121 =>
 wtS x110 true (kL1 x113 h114 fun x305 =>
 j121 x305 h114 ((fun h116 => kL1 x113 h116 fun x117 =>
 some (x117, h116), x305, 0, 1) :: d102)) (j121 u h114 d102)) fun j115 =>
 wtS x110 true (kFA 8 x3 fun x306 =>
 j115 x306 h111) (j115 u h111)) fun j112 =>
 wtS x94 false (j112 x107 h108) (j112 u h108)) fun j109 =>
 wtS x94 false (kEq' false (.agg [.int, .int]) x100 x104 fun x307 =>
 j109 x307 h105) (j109 u h105)) fun j106 =>
 wtS x94 false (kB [(qw 0), (qb 0)] [] fun x308 =>
 j106 x308 h101) (j106 u h101)) fun j103 =>
 wtS x94 false (kLA 2 x95 h96 fun x309 =>
 j103 x309 h96 d82) (j103 u h96 d82)) fun j97 =>
 wtS x94 false (kFA 6 x3 fun x310 =>
 j97 x310 h88) (j97 u h88)) fun j89 =>
 wtS x74 false (kEq' false (.agg [.int, .int]) x80 x84 fun x311 =>
 j89 x311 h85) (j89 u h85)) fun j86 =>
 wtS x74 false (kB [(qw 0), (qb 0)] [] fun x312 =>
 j86 x312 h81) (j86 u h81)) fun j83 =>
 wtS x74 false (kLA 2 x75 h76 fun x313 =>
 j83 x313 h76 ((fun h78 => kLA 2 x75 h78 fun x79 =>
 some (x79, h78), x313, 0, 1) :: d65)) (j83 u h76 d65)) fun j77 =>
 wtS x74 false (kFA 4 x3 fun x314 =>
 j77 x314 h68) (j77 u h68)) fun j69 =>
 wtS x57 false (kEqI false x63 (qw 0) fun x315 =>
 j69 x315 h64) (j69 u h64)) fun j66 =>
 wtS x57 false (kL1 x58 h59 fun x316 =>
 j66 x316 h59 ((fun h61 => kL1 x58 h61 fun x62 =>
 some (x62, h61), x316, 0, 1) :: [])) (j66 u h59 [])) fun j60 =>
 wtS x57 false (kFA 3 x3 fun x317 =>
 j60 x317 h51) (j60 u h51)) fun j52 =>
 wtS x37 true (kCall X 15 [x44, x47] h48 fun x318 h319 =>
 j52 x318 h319) (j52 u h48)) fun j49 =>
 wtS x37 true (kB zr0 [] fun x320 =>
 j49 x320 h45) (j49 u h45)) fun j46 =>
 wtS x37 true (kLA 49 x41 h42 fun x321 =>
 j46 x321 h42) (j46 u h42)) fun j43 =>
 wtS x37 true (kFA 3 x38 fun x322 =>
 j43 x322 h39) (j43 u h39)) fun j40 =>
 wtS x37 true (kFA 62 x3 fun x323 =>
 j40 x323 h35) (j40 u h35)) fun j36 =>
 wtS x24 true (kEqI false x31 (qw 0) fun x324 =>
 j36 x324 h32) (j36 u h32)) fun j33 =>
 wtS x24 true (kL1 x28 h29 fun x325 =>
 j33 x325 h29) (j33 u h29)) fun j30 =>
 wtS x24 true (kFA 1 x25 fun x326 =>
 j30 x326 h26) (j30 u h26)) fun j27 =>
 wtS x24 true (kFA 62 x3 fun x327 =>
 j27 x327 h22) (j27 u h22)) fun j23 =>
 wtS x11 true (kEqI false x18 (qi 0) fun x328 =>
 j23 x328 h19) (j23 u h19)) fun j20 =>
 wtS x11 true (kL1 x15 h16 fun x329 =>
 j20 x329 h16) (j20 u h16)) fun j17 =>
 wtS x11 true (kFA 0 x12 fun x330 =>
 j17 x330 h13) (j17 u h13)) fun j14 =>
 wtS x11 true (kFA 62 x3 fun x331 =>
 j14 x331 h6) (j14 u h6))
theorem p74_ok (k : Nat) : p74 k = funcS k 2 lit74 := by kernel_rfl
def p80 (_ : Nat) : CtxK → List V → TH → R := fun _ => ap 1 (fun x0 h1 =>
 kNew (V.cellsR x0) h1 fun x2 h3 =>
 kFA 0 x2 fun x4 =>
 kL1 x4 h3 fun x5 =>
 kEqI true x5 (qb 17) fun x6 =>
 jc (α := JT) (fun x7 h8 =>
 jc (α := JT) (fun x10 h11 =>
 jc (α := JT) (fun x13 h14 =>
 kPick x6 qt x13 fun x16 =>
 some (x16, h14)) fun j15 =>
 wtS x6 false (kBin .lss x10 (qw 5) fun x17 =>
 j15 x17 h11) (j15 u h11)) fun j12 =>
 wtS x6 false (kL1 x7 h8 fun x18 =>
 j12 x18 h8) (j12 u h8)) fun j9 =>
 wtS x6 false (kFA 122 x2 fun x19 =>
 j9 x19 h3) (j9 u h3))
theorem p80_ok (k : Nat) : p80 k = funcS k 1 lit80 := by kernel_rfl
def p82 (_ : Nat) : CtxK → List V → TH → R := fun _ => ap 1 (fun x0 h1 =>
 kBin .shr x0 (.int .u64 33) fun x2 =>
 kBin .xor x0 x2 fun x3 =>
 kBin .mul x3 (.int .u64 18397679294719823053) fun x4 =>
 kBin .shr x4 (.int .u64 33) fun x5 =>
 kBin .xor x4 x5 fun x6 =>
 kBin .mul x6 (.int .u64 14181476777654086739) fun x7 =>
 kBin .shr x7 (.int .u64 33) fun x8 =>
 kBin .xor x7 x8 fun x9 =>
 some (x9, h1))
theorem p82_ok (k : Nat) : p82 k = funcS k 1 lit82 := by kernel_rfl
def p83 (_ : Nat) : CtxK → List V → TH → R := fun X => ap 1 (fun x0 h1 =>
 kCall X 124 [x0] h1 fun x2 h3 =>
 kCall X 61 [x2] h3 fun _ h5 =>
 some (x2, h5))
theorem p83_ok (k : Nat) : p83 k = funcS k 1 lit83 := by kernel_rfl
def p90 (_ : Nat) : CtxK → List V → TH → R := fun X => ap 2 (fun x0 x1 h2 =>
 kNew (V.cellsR x0) h2 fun x3 h4 =>
 kNew (V.cellsR x1) h4 fun x5 h6 =>
 kNew zr8 h6 fun x7 h8 =>
 kLA 49 x3 h8 fun x9 =>
 kCall X 50 [x9] h8 fun x10 h11 =>
 kNot x10 fun x12 =>
 jc (α := JT) (fun x13 h14 =>
 jc (α := JT) (fun x16 h17 =>
 jc (α := JT) (fun x19 h20 =>
 kPick x12 qt x19 fun x22 =>
 brS x22 (kB zr8 [] fun x23 =>
 kSA 52 x7 x23 h20 fun _ h25 =>
 rsS [.cell 4 true 52] [x0, x1, x3, x5, x7, u, u, x9, x10, x12, x12, x13, x16, x19, x22, x23, u, u, u, u, u, u, u, u, u, u, u, u, u, u, u, u, u, u, u, u, u, u, u, u, u, u, u, u, u, u, u, u, u, u, u] h25) (kLA 49 x3 h20 fun x26 =>
 kNew zr0 h20 fun x27 h28 =>
 kSA 49 x27 x26 h28 fun _ h30 =>
 kFA 0 x5 fun x31 =>
 kL1 x31 h30 fun x32 =>
 kFA 0 x27 fun x33 =>
 kS1 x33 x32 h30 fun _ h35 =>
 kLA 49 x27 h35 fun x36 =>
 kLA 49 x5 h35 fun x37 =>
 kCall X 15 [x36, x37] h35 fun x38 h39 =>
 brS x38 (kLA 49 x5 h39 fun x40 =>
 kCall X 129 [x40] h39 fun x41 h42 =>
 kB zr8 [(0, 1, (qi 0)), (3, 49, x41)] fun x43 =>
 kSA 52 x7 x43 h42 fun _ h45 =>
 rsS [.cell 4 true 52] [x0, x1, x3, x5, x7, x27, u, x9, x10, x12, x12, x13, x16, x19, x22, u, x26, x31, x32, x33, x38, x36, x37, x38, x40, x41, x43, u, u, u, u, u, u, u, u, u, u, u, u, u, u, u, u, u, u, u, u, u, u, u, u] h45) (kLA 49 x3 h39 fun x46 =>
 kLA 49 x5 h39 fun x47 =>
 kCall X 130 [x46, x47] h39 fun x48 h49 =>
 kNot x48 fun x50 =>
 brS x50 (kLA 49 x5 h49 fun x51 =>
 kCall X 36 [x51] h49 fun x52 h53 =>
 kB zr8 [(0, 1, (qi 2)), (3, 49, x52)] fun x54 =>
 kSA 52 x7 x54 h53 fun _ h56 =>
 rsS [.cell 4 true 52] [x0, x1, x3, x5, x7, x27, u, x9, x10, x12, x12, x13, x16, x19, x22, u, x26, x31, x32, x33, x38, x36, x37, x38, u, u, u, x50, x46, x47, x48, x50, x51, x52, x54, u, u, u, u, u, u, u, u, u, u, u, u, u, u, u, u] h56) (kLA 49 x3 h49 fun x57 =>
 kLA 49 x5 h49 fun x58 =>
 kCall X 131 [x57, x58] h49 fun x59 h60 =>
 kFA 48 x5 fun x61 =>
 kL1 x61 h60 fun x64 =>
 kFA 40 x5 fun x65 =>
 kFA 1 x65 fun x66 =>
 kL1 x66 h60 fun x69 =>
 kBin .sub x59 x69 fun x70 =>
 kP (sliceE 8 x64 (some x70) none) fun x71 =>
 kLA 49 x5 h60 fun x74 =>
 kCall X 94 [x71] h60 fun x75 h76 =>
 kCall X 129 [x74] h76 fun x77 h78 =>
 kB zr8 [(0, 1, (qi 1)), (1, 1, x59), (2, 1, x75), (3, 49, x77)] fun x79 =>
 kSA 52 x7 x79 h78 fun _ h81 =>
 dokS [h60, h76, h78, h81] ((fun h72 => kLA 49 x5 h72 fun x73 =>
 some (x73, h72), x74, 0, 1) :: []) (rsS [.cell 4 true 52] [x0, x1, x3, x5, x7, x27, x59, x9, x10, x12, x12, x13, x16, x19, x22, u, x26, x31, x32, x33, x38, x36, x37, x38, u, u, u, x50, x46, x47, x48, x50, u, u, u, x57, x58, x59, x59, x61, x64, x59, x65, x66, x69, x70, x71, x75, x74, x77, x79] h81))))) fun j21 =>
 wtS x12 false (kNot x16 fun x82 =>
 j21 x82 h17) (j21 u h17)) fun j18 =>
 wtS x12 false (kCall X 50 [x13] h14 fun x83 h84 =>
 j18 x83 h84) (j18 u h14)) fun j15 =>
 wtS x12 false (kLA 49 x5 h11 fun x85 =>
 j15 x85 h11) (j15 u h11))
theorem p90_ok (k : Nat) : p90 k = funcS k 2 lit90 := by kernel_rfl
def p91 (k : Nat) : CtxK → List V → TH → R := fun X => ap 1 (fun x0 h1 =>
 kNew (V.cellsR x0) h1 fun x2 h3 =>
 kFA 0 x2 fun x4 =>
 kLA 30 x4 h3 fun x5 =>
 lp (α := Cur 42) (zN 42) (fun n49 _ x7 _ _ _ _ _ _ x14 x15 _ _ _ _ _ _ _ _ _ _ _ _ _ _ _ _ _ _ _ _ _ _ _ _ _ _ _ _ _ _ _ _ h48 =>
 kBin .lss x15 (qi 6) fun x50 =>
 brS x50 (kP (indexE (some (6, 5, true)) x14 x15) fun x51 =>
 kNew [qf, qs, qs, qs, qs] h48 fun x52 h53 =>
 kSA 5 x52 x51 h53 fun _ h55 =>
 kLA 5 x52 h55 fun x56 =>
 kCall X 132 [x56] h55 fun x57 h58 =>
 kNot x57 fun x59 =>
 brS x59 (some (qf, h58)) (kBin .add x15 (qi 1) fun x60 =>
 n49 u x7 u u u u u u x14 x60 u u u u u u u u u u u u u u u u u u u u u u u u u u u u u u u u h58)) (kFA 30 x7 fun x61 =>
 kLA 9 x61 h48 fun x62 =>
 lp (α := Cur 42) (zN 42) (fun n106 _ _ _ _ _ _ _ _ _ _ _ _ _ _ _ _ _ x80 x81 _ _ _ _ _ _ _ _ _ _ _ _ _ _ _ _ _ _ _ _ _ _ _ h105 =>
 kBin .lss x81 (qi 3) fun x107 =>
 brS x107 (kP (indexE (some (3, 3, true)) x80 x81) fun x108 =>
 kNew [(qw 0), (qb 0), qs] h105 fun x109 h110 =>
 kSA 3 x109 x108 h110 fun _ h112 =>
 kFA 1 x109 fun x113 =>
 kFA 1 x113 fun x114 =>
 kL1 x114 h112 fun x115 =>
 kEq' true (.leaf .str) x115 qs fun x116 =>
 jc (α := JT) (fun x117 h118 =>
 jc (α := JT) (fun x120 h121 =>
 jc (α := JT) (fun x123 h124 =>
 jc (α := JT) (fun x126 h127 =>
 kPick x116 qt x126 fun x129 =>
 jc (α := JT) (fun x130 h131 =>
 jc (α := JT) (fun x133 h134 =>
 jc (α := JT) (fun x136 h137 =>
 jc (α := JT) (fun x139 h140 =>
 jc (α := JT) (fun x142 h143 =>
 jc (α := JT) (fun x145 h146 =>
 jc (α := JT) (fun x148 h149 =>
 jc (α := JT) (fun x151 h152 =>
 kPick x129 qt x151 fun x154 =>
 brS x154 (some (qf, h152)) (kBin .add x81 (qi 1) fun x155 =>
 n106 u u u u u u u u u u u u u u u u u x80 x155 u u u u u u u u u u u u u u u u u u u u u u u h152)) fun j153 =>
 wtS x129 false (kPick x139 x148 qf fun x156 =>
 j153 x156 h149) (j153 u h149)) fun j150 =>
 wtS x139 true (kEq' true (.agg [.int, .int, .str]) x142 x145 fun x157 =>
 j150 x157 h146) (j150 u h146)) fun j147 =>
 wtS x139 true (kB [(qw 0), (qb 0), qs] [] fun x158 =>
 j147 x158 h143) (j147 u h143)) fun j144 =>
 wtS x139 true (kLA 3 x109 h140 fun x159 =>
 j144 x159 h140) (j144 u h140)) fun j141 =>
 wtS x129 false (j141 x136 h137) (j141 u h137)) fun j138 =>
 wtS x129 false (kEqI false x133 (qw 0) fun x160 =>
 j138 x160 h134) (j138 u h134)) fun j135 =>
 wtS x129 false (kL1 x130 h131 fun x161 =>
 j135 x161 h131) (j135 u h131)) fun j132 =>
 wtS x129 false (kFA 0 x109 fun x162 =>
 j132 x162 h127) (j132 u h127)) fun j128 =>
 wtS x116 false (kBin .gtr x123 (qb 3) fun x163 =>
 j128 x163 h124) (j128 u h124)) fun j125 =>
 wtS x116 false (kL1 x120 h121 fun x164 =>
 j125 x164 h121) (j125 u h121)) fun j122 =>
 wtS x116 false (kFA 0 x117 fun x165 =>
 j122 x165 h118) (j122 u h118)) fun j119 =>
 wtS x116 false (kFA 1 x109 fun x166 =>
 j119 x166 h112) (j119 u h112)) (some (qt, h105))) k u u u u u u u u u u u u u u u u u x62 (qi 0) u u u u u u u u u u u u u u u u u u u u u u u h48)) k u x2 u u u u u u x5 (qi 0) u u u u u u u u u u u u u u u u u u u u u u u u u u u u u u u u h3)
theorem p91_ok (k : Nat) : p91 k = funcS k 1 lit91 := by kernel_rfl
def p94 (_ : Nat) : CtxK → List V → TH → R := fun _ => ap 1 (fun x0 h1 =>
 kEq' false (.nilR .sl) x0 .nils fun x2 =>
 brS x2 (some (.nils, h1)) (kBS 8 zr2 0 [] h1 fun x3 h4 =>
 kAp 8 40 x3 x0 h4 fun x5 h6 =>
 some (x5, h6)))
theorem p94_ok (k : Nat) : p94 k = funcS k 1 lit94 := by kernel_rfl
def p104 (_ : Nat) : CtxK → List V → TH → R := fun _ => ap 1 (fun x0 h1 =>
 kNew (V.cellsR x0) h1 fun x2 h3 =>
 kFA 1 x2 fun x4 =>
 kL1 x4 h3 fun x5 =>
 kConv .i64 x5 fun x6 =>
 kBin .sub x6 (qi 10) fun x7 =>
 some (x7, h3))
theorem p104_ok (k : Nat) : p104 k = funcS k 1 lit104 := by kernel_rfl
def p123 (_ : Nat) : CtxK → List V → TH → R := fun X => ap 1 (fun x0 h1 =>
 kNew (V.cellsR x0) h1 fun x2 h3 =>
 kLA 49 x2 h3 fun x4 =>
 kCall X 50 [x4] h3 fun x5 h6 =>
 jc (α := JT) (fun x7 h8 =>
 jc (α := JT) (fun x10 h11 =>
 jc (α := JT) (fun x13 h14 =>
 jc (α := JT) (fun x16 h17 =>
 jc (α := JT) (fun x19 h20 =>
 jc (α := JT) (fun x22 h23 =>
 jc (α := JT) (fun x25 h26 =>
 kPick x5 x25 qf fun x28 =>
 some (x28, h26)) fun j27 =>
 wtS x5 true (kCall X 15 [x7, x22] h23 fun x29 h30 =>
 j27 x29 h30) (j27 u h23)) fun j24 =>
 wtS x5 true (kB zr0 [(0, 1, x13), (40, 8, x19)] fun x31 =>
 j24 x31 h20) (j24 u h20)) fun j21 =>
 wtS x5 true (kLA 8 x16 h17 fun x32 =>
 j21 x32 h17) (j21 u h17)) fun j18 =>
 wtS x5 true (kFA 40 x2 fun x33 =>
 j18 x33 h14) (j18 u h14)) fun j15 =>
 wtS x5 true (kL1 x10 h11 fun x34 =>
 j15 x34 h11) (j15 u h11)) fun j12 =>
 wtS x5 true (kFA 0 x2 fun x35 =>
 j12 x35 h8) (j12 u h8)) fun j9 =>
 wtS x5 true (kLA 49 x2 h6 fun x36 =>
 j9 x36 h6) (j9 u h6))
theorem p123_ok (k : Nat) : p123 k = funcS k 1 lit123 := by kernel_rfl
def p129 (_ : Nat) : CtxK → List V → TH → R := fun _ => ap 1 (fun x0 h1 =>
 kNew (V.cellsR x0) h1 fun x2 h3 =>
 kNew zr0 h3 fun x4 h5 =>
 kFA 0 x2 fun x6 =>
 kL1 x6 h5 fun x7 =>
 kFA 40 x2 fun x8 =>
 kLA 8 x8 h5 fun x9 =>
 kB zr0 [(0, 1, x7), (40, 8, x9)] fun x10 =>
 kSA 49 x4 x10 h5 fun _ h12 =>
 rsS [.cell 2 true 49] [x0, x2, x4, x6, x7, x8, x9, x10] h12)
theorem p129_ok (k : Nat) : p129 k = funcS k 1 lit129 := by kernel_rfl
def p131 (k : Nat) : CtxK → List V → TH → R := fun X => ap 2 (fun x0 x1 h2 =>
 kNew (V.cellsR x0) h2 fun x3 h4 =>
 kNew (V.cellsR x1) h4 fun x5 h6 =>
 kFA 40 x5 fun x7 =>
 kFA 1 x7 fun x8 =>
 kL1 x8 h6 fun x9 =>
 kFA 48 x5 fun x10 =>
 kL1 x10 h6 fun x11 =>
 kLen x11 fun x12 =>
 lp (α := Cur 39) (zN 39) (fun n53 _ _ x15 _ _ x18 _ _ _ _ _ _ _ _ x27 x28 x29 _ _ _ _ _ _ _ _ _ _ _ _ _ _ _ _ _ _ _ _ _ _ h52 =>
 kBin .lss x29 x28 fun x54 =>
 brS x54 (kIS 8 x27 x29 fun x55 =>
 kLA 8 x55 h52 fun x56 =>
 kNew zr2 h52 fun x57 h58 =>
 kSA 8 x57 x56 h58 fun _ h60 =>
 kLA 49 x15 h60 fun x61 =>
 kFA 1 x57 fun x62 =>
 kL1 x62 h60 fun x63 =>
 kCall X 165 [x61, x63] h60 fun x64 h65 =>
 kExt x64 0 fun x66 =>
 kExt x64 1 fun x67 =>
 kNew zr2 h65 fun x68 h69 =>
 kSA 8 x68 x66 h69 fun _ h71 =>
 kNot x67 fun x72 =>
 jc (α := JT) (fun x73 h74 =>
 jc (α := JT) (fun x76 h77 =>
 jc (α := JT) (fun x79 h80 =>
 kPick x72 qt x79 fun x82 =>
 brS x82 (some (x18, h80)) (kFA 1 x57 fun x83 =>
 kL1 x83 h80 fun x84 =>
 kBin .add x29 (qi 1) fun x85 =>
 n53 u u x15 u u x84 u u u u u u u u x27 x28 x85 u u u u u u u u u u u u u u u u u u u u u u h80)) fun j81 =>
 wtS x72 false (kEq' true (.agg [.int, .int, .int, .int, .int, .int, .int, .str]) x73 x76 fun x86 =>
 j81 x86 h77) (j81 u h77)) fun j78 =>
 wtS x72 false (kLA 8 x57 h74 fun x87 =>
 j78 x87 h74) (j78 u h74)) fun j75 =>
 wtS x72 false (kLA 8 x68 h71 fun x88 =>
 j75 x88 h71) (j75 u h71)) (some (x18, h52))) k u u x3 u u x9 u u u u u u u u x11 x12 (qi 0) u u u u u u u u u u u u u u u u u u u u u u h6)
theorem p131_ok (k : Nat) : p131 k = funcS k 2 lit131 := by kernel_rfl
def p132 (k : Nat) : CtxK → List V → TH → R := fun _ => ap 1 (fun x0 h1 =>
 kNew (V.cellsR x0) h1 fun x2 h3 =>
 kFA 0 x2 fun x4 =>
 kL1 x4 h3 fun x5 =>
 kNot x5 fun x6 =>
 brS x6 (kLA 5 x2 h3 fun x7 =>
 kB [qf, qs, qs, qs, qs] [] fun x8 =>
 kEq' false (.agg [.bool, .str, .str, .str, .str]) x7 x8 fun x9 =>
 some (x9, h3)) (kFA 2 x2 fun x10 =>
 kLA 3 x10 h3 fun x11 =>
 lp (α := Cur 24) (zN 24) (fun n37 _ x13 _ _ _ _ _ _ _ _ _ _ x24 x25 _ _ _ _ _ _ _ _ _ _ h36 =>
 kBin .lss x25 (qi 3) fun x38 =>
 brS x38 (kIx 3 x24 x25 fun x39 =>
 kP (lenV true x39) fun x40 =>
 kBin .gtr x40 (qi 16) fun x41 =>
 brS x41 (some (qf, h36)) (kBin .add x25 (qi 1) fun x42 =>
 n37 u x13 u u u u u u u u u u x24 x42 u u u u u u u u u u h36)) (kFA 1 x13 fun x43 =>
 kL1 x43 h36 fun x44 =>
 kP (lenV true x44) fun x45 =>
 kBin .leq x45 (qi 16) fun x46 =>
 some (x46, h36))) k u x2 u u u u u u u u u u x11 (qi 0) u u u u u u u u u u h3))
theorem p132_ok (k : Nat) : p132 k = funcS k 1 lit132 := by kernel_rfl
def p138 (_ : Nat) : CtxK → List V → TH → R := fun X => ap 2 (fun x0 x1 h2 =>
 kCall X 175 [x0, x1] h2 fun x3 h4 =>
 kBin .geq x3 (qi 0) fun x5 =>
 some (x5, h4))
theorem p138_ok (k : Nat) : p138 k = funcS k 2 lit138 := by kernel_rfl
def p139 (_ : Nat) : CtxK → List V → TH → R := fun X => ap 1 (fun x0 h1 =>
 kNew (V.cellsR x0) h1 fun x2 h3 =>
 kLA 49 x2 h3 fun x4 =>
 kCall X 50 [x4] h3 fun x5 h6 =>
 kNot x5 fun x7 =>
 some (x7, h6))
theorem p139_ok (k : Nat) : p139 k = funcS k 1 lit139 := by kernel_rfl
def p142 (k : Nat) : CtxK → List V → TH → R := fun X => ap 2 (fun x0 x1 h2 =>
 kNew (V.cellsR x0) h2 fun x3 h4 =>
 kLA 16 x3 h4 fun x5 =>
 kCall X 141 [x5] h4 fun x6 h7 =>
 kNot x6 fun x8 =>
 jc (α := JT) (fun x9 h10 =>
 jc (α := JT) (fun x12 h13 =>
 kPick x8 qt x12 fun x15 =>
 brS x15 (some (.nils, h13)) (kLA 16 x3 h13 fun x18 =>
 kLA 16 x3 h13 fun x21 =>
 kCall X 176 [x21] h13 fun x22 h23 =>
 kB [(qw 0), qf, (qi 0), (qb 0), qf, (qi 0), (qb 0), qf, (qi 0), (qb 0), qf, (qi 0), (qb 0), qf, (qi 0), (qb 0), (qb 0), .nils, .nils] [(0, 16, x18), (16, 1, x1), (17, 1, x22)] fun x24 =>
 kNew (V.cellsR x24) h23 fun x25 h26 =>
 dokS [h13, h26] ((fun h16 => kLA 16 x3 h16 fun x17 =>
 some (x17, h16), x18, 0, 1) :: []) (lp (α := Cur 39) (zN 39) (fun n67 _ _ _ _ _ x32 x33 _ _ _ _ _ _ _ _ _ _ _ _ _ _ _ _ _ _ _ _ _ _ _ _ _ _ _ _ _ _ _ _ h66 =>
 kBin .lss x33 (qi 3) fun x68 =>
 jc (α := JT) (fun x69 h70 =>
 jc (α := JT) (fun x72 h73 =>
 jc (α := JT) (fun x75 h76 =>
 jc (α := JT) (fun x78 h79 =>
 jc (α := JT) (fun x81 h82 =>
 jc (α := JT) (fun x84 h85 =>
 kPick x68 x84 qf fun x87 =>
 brS x87 (kCall X 177 [x32, x33] h85 fun _ h89 =>
 kBin .add x33 (qi 1) fun x90 =>
 n67 u u u u u x32 x90 u u u u u u u u u u u u u u u u u u u u u u u u u u u u u u u u h89) (kNilc x32 fun x91 =>
 kFA 18 x91 fun x92 =>
 kL1 x92 h85 fun x93 =>
 some (x93, h85))) fun j86 =>
 wtS x68 true (kBin .gtr x81 (qi 0) fun x94 =>
 j86 x94 h82) (j86 u h82)) fun j83 =>
 wtS x68 true (kLen x78 fun x95 =>
 j83 x95 h79) (j83 u h79)) fun j80 =>
 wtS x68 true (kL1 x75 h76 fun x96 =>
 j80 x96 h76) (j80 u h76)) fun j77 =>
 wtS x68 true (kFA 17 x72 fun x97 =>
 j77 x97 h73) (j77 u h73)) fun j74 =>
 wtS x68 true (kNilc x69 fun x98 =>
 j74 x98 h70) (j74 u h70)) fun j71 =>
 wtS x68 true (j71 x32 h66) (j71 u h66)) k u u u u u x25 (qi 0) u u u u u u u u u u u u u u u u u u u u u u u u u u u u u u u u h26))) fun j14 =>
 wtS x8 false (kBin .geq x9 (qb 4) fun x99 =>
 j14 x99 h10) (j14 u h10)) fun j11 =>
 wtS x8 false (j11 x1 h7) (j11 u h7))
theorem p142_ok (k : Nat) : p142 k = funcS k 2 lit142 := by kernel_rfl
def p143 (_ : Nat) : CtxK → List V → TH → R := fun _ => ap 2 (fun x0 x1 h2 =>
 kFA 1 x1 fun x3 =>
 kIA 5 3 x3 x0 fun x4 =>
 kFA 0 x4 fun x5 =>
 kL1 x5 h2 fun x6 =>
 kNot x6 fun x7 =>
 some (x7, h2))
theorem p143_ok (k : Nat) : p143 k = funcS k 2 lit143 := by kernel_rfl
def p150 (_ : Nat) : CtxK → List V → TH → R := fun X => ap 2 (fun x0 x1 h2 =>
 kCall X 183 [x0] h2 fun x3 h4 =>
 jc (α := JT) (fun x5 h6 =>
 jc (α := JT) (fun x8 h9 =>
 jc (α := JT) (fun x11 h12 =>
 kPick x3 x11 qf fun x14 =>
 jc (α := JT) (fun x15 h16 =>
 jc (α := JT) (fun x18 h19 =>
 jc (α := JT) (fun x21 h22 =>
 kPick x14 qt x21 fun x24 =>
 some (x24, h22)) fun j23 =>
 wtS x14 false (kBin .lss x15 x18 fun x25 =>
 j23 x25 h19) (j23 u h19)) fun j20 =>
 wtS x14 false (j20 x1 h16) (j20 u h16)) fun j17 =>
 wtS x14 false (j17 x0 h12) (j17 u h12)) fun j13 =>
 wtS x3 true (kNot x8 fun x26 =>
 j13 x26 h9) (j13 u h9)) fun j10 =>
 wtS x3 true (kCall X 183 [x5] h6 fun x27 h28 =>
 j10 x27 h28) (j10 u h6)) fun j7 =>
 wtS x3 true (j7 x1 h4) (j7 u h4))
theorem p150_ok (k : Nat) : p150 k = funcS k 2 lit150 := by kernel_rfl
def p163 (k : Nat) : CtxK → List V → TH → R := fun _ => ap 2 (fun x0 x1 h2 =>
 kLen x0 fun x3 =>
 lp (α := Cur 19) (zN 19) (fun n24 x4 x5 _ _ _ _ _ x11 x12 _ _ _ _ _ _ _ _ _ _ h23 =>
 kBin .lss x12 x11 fun x25 =>
 brS x25 (kIS 1 x4 x12 fun x26 =>
 kL1 x26 h23 fun x27 =>
 kEq' false (.leaf .bool) x5 x27 fun x28 =>
 brS x28 (some (x12, h23)) (kBin .add x12 (qi 1) fun x29 =>
 n24 x4 x5 u u u u u x11 x29 u u u u u u u u u u h23)) (some ((.int .i64 (-1)), h23))) k x0 x1 u u u u u x3 (qi 0) u u u u u u u u u u h2)
theorem p163_ok (k : Nat) : p163 k = funcS k 2 lit163 := by kernel_rfl
def p167 (_ : Nat) : CtxK → List V → TH → R := fun X => ap 2 (fun x0 x1 h2 =>
 kNew (V.cellsR x1) h2 fun x3 h4 =>
 kFA 4 x3 fun x5 =>
 kL1 x5 h4 fun x6 =>
 kConv .i64 x6 fun x7 =>
 kFA 5 x3 fun x8 =>
 kL1 x8 h4 fun x9 =>
 kP (lenV true x9) fun x10 =>
 kBin .add x7 x10 fun x11 =>
 kBin .gtr x11 (qi 16) fun x12 =>
 brS x12 (some ((qb 2), h4)) (kNilc x0 fun x13 =>
 kFA 0 x13 fun x14 =>
 kFA 1 x14 fun x15 =>
 kL1 x15 h4 fun x16 =>
 kCall X 191 [x16, x11] h4 fun x17 h18 =>
 kNilc x0 fun x19 =>
 kFA 0 x19 fun x20 =>
 kFA 0 x20 fun x21 =>
 kS1 x21 qt h18 fun _ h23 =>
 kFA 4 x3 fun x24 =>
 kL1 x24 h23 fun x27 =>
 kP (subsE x17 none (some x27)) fun x28 =>
 kFA 5 x3 fun x29 =>
 kL1 x29 h23 fun x32 =>
 kBin .add x28 x32 fun x33 =>
 kP (subsE x17 (some x11) none) fun x34 =>
 kBin .add x33 x34 fun x35 =>
 kNilc x0 fun x36 =>
 kFA 0 x36 fun x37 =>
 kFA 1 x37 fun x38 =>
 kS1 x38 x35 h23 fun _ h40 =>
 dokS [h23, h40] [] (some ((qb 0), h40))))
theorem p167_ok (k : Nat) : p167 k = funcS k 2 lit167 := by kernel_rfl
def p171 (k : Nat) : CtxK → List V → TH → R := fun X => ap 2 (fun x0 x1 h2 =>
 kBin .geq x1 (qb 4) fun x3 =>
 brS x3 (some (.nils, h2)) (kNilc x0 fun x4 =>
 kFA 3 x4 fun x5 =>
 kIA 4 1 x5 x1 fun x6 =>
 kL1 x6 h2 fun x7 =>
 kCall X 192 [x7] h2 fun x8 h9 =>
 kLen x8 fun x10 =>
 lp (α := Cur 33) (zN 33) (fun n45 _ _ _ _ _ x16 _ _ _ _ _ _ _ _ _ _ _ x28 x29 x30 _ _ _ _ _ _ _ _ _ _ _ _ _ h44 =>
 kBin .lss x30 x29 fun x46 =>
 brS x46 (kIS 2 x28 x30 fun x47 =>
 kLA 2 x47 h44 fun x48 =>
 kNew [(qw 0), .nils] h44 fun x49 h50 =>
 kSA 2 x49 x48 h50 fun _ h52 =>
 kFA 1 x49 fun x53 =>
 kL1 x53 h52 fun x54 =>
 kCall X 34 [x54] h52 fun x55 h56 =>
 kIS 2 x16 x30 fun x57 =>
 kFA 1 x57 fun x58 =>
 kS1 x58 x55 h56 fun _ h60 =>
 kBin .add x30 (qi 1) fun x61 =>
 n45 u u u u u x16 u u u u u u u u u u u x28 x29 x61 u u u u u u u u u u u u u h60) (some (x16, h44))) k u u u u u x8 u u u u u u u u u u u x8 x10 (qi 0) u u u u u u u u u u u u u h9))
theorem p171_ok (k : Nat) : p171 k = funcS k 2 lit171 := by kernel_rfl
def p191 (_ : Nat) : CtxK → List V → TH → R := fun X => ap 2 (fun x0 x1 h2 =>
 kP (lenV true x0) fun x3 =>
 kBin .sub x1 x3 fun x4 =>
 kP (minE true x4 (qi 0)) fun x5 =>
 kCall X 200 [(.str (bs [0])), x5] h2 fun x6 h7 =>
 kBin .add x0 x6 fun x8 =>
 some (x8, h7))
theorem p191_ok (k : Nat) : p191 k = funcS k 2 lit191 := by kernel_rfl
def p194 (k : Nat) : CtxK → List V → TH → R := fun X => ap 2 (fun x0 x1 h2 =>
 kLen x0 fun x3 =>
 lp (α := Cur 19) (zN 19) (fun n24 x4 x5 _ _ _ _ _ x11 x12 _ _ _ _ _ _ _ _ _ _ h23 =>
 kBin .lss x12 x11 fun x25 =>
 brS x25 (kIS 2 x4 x12 fun x26 =>
 kLA 2 x26 h23 fun x27 =>
 kCv X x5 [x27] h23 fun x28 h29 =>
 brS x28 (some (x12, h29)) (kBin .add x12 (qi 1) fun x30 =>
 n24 x4 x5 u u u u u x11 x30 u u u u u u u u u u h29)) (some ((.int .i64 (-1)), h23))) k x0 x1 u u u u u x3 (qi 0) u u u u u u u u u u h2)
theorem p194_ok (k : Nat) : p194 k = funcS k 2 lit194 := by kernel_rfl
def p196 (k : Nat) : CtxK → List V → TH → R := fun X => ap 2 (fun x0 x1 h2 =>
 kNilc x0 fun x3 =>
 kFA 17 x3 fun x4 =>
 kL1 x4 h2 fun x5 =>
 kLen x5 fun x6 =>
 lp (α := Cur 44) (zN 44) (fun n52 x7 x8 _ _ _ x12 _ _ _ _ _ x18 x19 x20 _ _ _ _ _ _ _ _ _ _ _ _ _ _ _ _ _ _ _ _ _ _ _ _ _ _ _ _ _ _ h51 =>
 kBin .lss x20 x19 fun x53 =>
 brS x53 (kIS 1 x18 x20 fun x54 =>
 kL1 x54 h51 fun x55 =>
 kNilc x7 fun x56 =>
 kFA 16 x56 fun x57 =>
 kL1 x57 h51 fun x60 =>
 kNilc x7 fun x61 =>
 kFA 0 x61 fun x62 =>
 kFA 1 x62 fun x63 =>
 kIA 5 3 x63 x55 fun x64 =>
 kFA 1 x64 fun x65 =>
 kL1 x65 h51 fun x68 =>
 kCall X 201 [x60, x55, x8, x68] h51 fun x69 h70 =>
 kBS 1 [(qi 0)] 1 [(0, 1, x69)] h70 fun x71 h72 =>
 kAp 1 8 x12 x71 h72 fun x73 h74 =>
 dokS [h51, h72, h74] [] (kBin .add x20 (qi 1) fun x75 =>
 n52 x7 x8 u u u x73 u u u u u x18 x19 x75 u u u u u u u u u u u u u u u u u u u u u u u u u u u u u u h74)) (kNilc x7 fun x76 =>
 kFA 17 x76 fun x77 =>
 kL1 x77 h51 fun x80 =>
 kCall X 202 [x12] h51 fun x81 h82 =>
 kIS 1 x80 x81 fun x83 =>
 kL1 x83 h82 fun x86 =>
 dokS [h51, h82] ((fun h78 => kL1 x77 h78 fun x79 =>
 some (x79, h78), x80, 0, 1) :: []) (some (x86, h82)))) k x0 x1 u u u .nils u u u u u x5 x6 (qi 0) u u u u u u u u u u u u u u u u u u u u u u u u u u u u u u h2)
theorem p196_ok (k : Nat) : p196 k = funcS k 2 lit196 := by kernel_rfl
def p201 (_ : Nat) : CtxK → List V → TH → R := fun X => ap 4 (fun x0 x1 x2 x3 h4 =>
 kConv .u32 x0 fun x5 =>
 kConv .u32 x1 fun x6 =>
 kConv .u32 x2 fun x7 =>
 kCall X 212 [x5, x6, x7] h4 fun x8 h9 =>
 kCall X 211 [x8, x3] h9 fun x10 h11 =>
 some (x10, h11))
theorem p201_ok (k : Nat) : p201 k = funcS k 4 lit201 := by kernel_rfl
end
end Go.PE
