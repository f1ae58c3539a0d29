/- The same functions with names for their slots (part 2 of 4), printed by a program of our own: each is what the evaluator's law says of the literal. -/
import Derived.Test.YtmdnkhidhkbgcaaGreatDoorDbL3
import Derived.KernelRfl
namespace Go.PE
set_option maxRecDepth 100000
noncomputable section
def p7 (_ : Nat) : CtxK → List V → TH → R := fun X => ap 0 (fun  h0 =>
 kMM h0 fun x1 h2 =>
 kMM h2 fun x3 h4 =>
 kB [.nilmap, .nilmap, (qw 0), .nils, .nils, .nils, .nils] [(0, 1, x1), (1, 1, x3)] fun x5 =>
 kNew (V.cellsR x5) h4 fun x6 h7 =>
 kCall X 33 [] h7 fun x8 h9 =>
 kCall X 32 [x6, x8] h9 fun _ h11 =>
 some (x6, h11))
theorem p7_ok (k : Nat) : p7 k = funcS k 0 lit7 := by kernel_rfl
def p15 (_ : Nat) : CtxK → List V → TH → R := fun X => ap 1 (fun x0 h1 =>
 kNew zr0 h1 fun x2 h3 =>
 kNilc x0 fun x4 =>
 kFA 3 x4 fun x5 =>
 kLA 49 x5 h3 fun x6 =>
 kCall X 34 [x6] h3 fun x7 h8 =>
 kSA 49 x2 x7 h8 fun _ h10 =>
 rsS [.cell 2 true 49] [x0, u, x2, x0, x4, x5, x6, x7] h10)
theorem p15_ok (k : Nat) : p15 k = funcS k 1 lit15 := by kernel_rfl
def p18 (_ : Nat) : CtxK → List V → TH → R := fun X => ap 1 (fun x0 h1 =>
 kNew (V.cellsR x0) h1 fun x2 h3 =>
 kLA 49 x2 h3 fun x4 =>
 kCall X 47 [x4] h3 fun x5 h6 =>
 kNot x5 fun x7 =>
 brS x7 (some (.tup [(qw 0), (qw 0)], h6)) (kLA 49 x2 h6 fun x8 =>
 kCall X 48 [x8] h6 fun x9 h10 =>
 kNew zr2 h10 fun x11 h12 =>
 kSA 8 x11 x9 h12 fun _ h14 =>
 kFA 0 x11 fun x15 =>
 kL1 x15 h14 fun x18 =>
 kFA 1 x11 fun x19 =>
 kL1 x19 h14 fun x22 =>
 dokS [h14] [] (some (.tup [x18, x22], h14))))
theorem p18_ok (k : Nat) : p18 k = funcS k 1 lit18 := by kernel_rfl
def p23 (_ : Nat) : CtxK → List V → TH → R := fun X => ap 1 (fun x0 h1 =>
 kNilc x0 fun x2 =>
 kFA 0 x2 fun x3 =>
 kL1 x3 h1 fun x6 =>
 kNilc x0 fun x7 =>
 kFA 1 x7 fun x8 =>
 kL1 x8 h1 fun x11 =>
 kNilc x0 fun x12 =>
 kFA 2 x12 fun x13 =>
 kCall X 12 [x6, x11] h1 fun x14 h15 =>
 kIS 1 x14 (qi 0) fun x16 =>
 kL1 x16 h15 fun x19 =>
 kIA 5 1 x13 x19 fun x20 =>
 kL1 x20 h15 fun x23 =>
 dokS [h1, h15] [] (some (x23, h15)))
theorem p23_ok (k : Nat) : p23 k = funcS k 1 lit23 := by kernel_rfl
def p32 (k : Nat) : CtxK → List V → TH → R := fun X => ap 2 (fun x0 x1 h2 =>
 kNew (V.cellsR x1) h2 fun x3 h4 =>
 kNilc x0 fun x5 =>
 kFA 0 x5 fun x6 =>
 kL1 x6 h4 fun x9 =>
 kFA 0 x3 fun x10 =>
 kL1 x10 h4 fun x13 =>
 kLA 16 x3 h4 fun x16 =>
 kMU x9 x13 x16 h4 fun _ h18 =>
 dokS [h4, h18] [] (kFA 0 x3 fun x19 =>
 kL1 x19 h18 fun x20 =>
 kNilc x0 fun x21 =>
 kFA 2 x21 fun x22 =>
 kS1 x22 x20 h18 fun _ h24 =>
 lp (α := Cur 60) (zN 60) (fun n86 x25 _ _ x28 _ _ _ _ _ _ _ _ _ _ _ _ _ _ _ x44 _ _ _ _ _ _ _ _ _ _ _ _ _ _ _ _ _ _ _ _ _ _ _ _ _ _ _ _ _ _ _ _ _ _ _ _ _ _ _ _ h85 =>
 kBin .lss x44 (qi 4) fun x87 =>
 brS x87 (kLA 16 x28 h85 fun x88 =>
 kConv .u8 x44 fun x89 =>
 kCall X 57 [x88, x89] h85 fun x90 h91 =>
 kNilc x25 fun x92 =>
 kFA 3 x92 fun x93 =>
 kIA 4 1 x93 x44 fun x94 =>
 kL1 x94 h91 fun x95 =>
 kLen x95 fun x96 =>
 kEqI false x96 (qi 0) fun x97 =>
 jc (α := JT) (fun x98 h99 =>
 jc (α := JT) (fun x101 h102 =>
 jc (α := JT) (fun x104 h105 =>
 jc (α := JT) (fun x107 h108 =>
 jc (α := JT) (fun x110 h111 =>
 jc (α := JT) (fun x113 h114 =>
 jc (α := JT) (fun x116 h117 =>
 jc (α := JT) (fun x119 h120 =>
 jc (α := JT) (fun x122 h123 =>
 jc (α := JT) (fun x125 h126 =>
 kPick x97 qt x125 fun x128 =>
 jc (α := Cur 60) (fun x129 _ _ x132 _ _ _ _ _ _ _ _ _ _ _ _ _ _ _ x148 _ _ _ _ _ _ _ _ _ _ _ _ _ _ _ _ _ _ _ _ _ _ _ _ _ _ _ _ _ _ _ _ _ _ _ _ _ _ _ _ h189 =>
 kBin .add x148 (qi 1) fun x191 =>
 n86 x129 u u x132 u u u u u u u u u u u u u u u x191 u u u u u u u u u u u u u u u u u u u u u u u u u u u u u u u u u u u u u u u u h189) fun j190 =>
 brS x128 (kFA 0 x28 fun x192 =>
 kL1 x192 h126 fun x195 =>
 kB [(qw 0), .nils] [(0, 1, x195), (1, 1, x90)] fun x196 =>
 kBS 2 [(qw 0), .nils] 1 [(0, 2, x196)] h126 fun x197 h198 =>
 kNilc x25 fun x199 =>
 kFA 3 x199 fun x200 =>
 kAp 2 32 x95 x197 h198 fun x201 h202 =>
 kIA 4 1 x200 x44 fun x203 =>
 kS1 x203 x201 h202 fun _ h205 =>
 dokS [h198, h202, h205] [] (j190 x25 u u x28 u u u u u u u u u u u u u u u x44 u u u u u u u u u u u u u u u u u u u u u u u u u u u u u u u u u u u u u u u u h205)) (j190 x25 u u x28 u u u u u u u u u u u u u u u x44 u u u u u u u u u u u u u u u u u u u u u u u u u u u u u u u u u u u u u u u u h126)) fun j127 =>
 wtS x97 false (kNot x122 fun x206 =>
 j127 x206 h123) (j127 u h123)) fun j124 =>
 wtS x97 false (kCall X 58 [x116, x119] h120 fun x207 h208 =>
 j124 x207 h208) (j124 u h120)) fun j121 =>
 wtS x97 false (j121 x90 h117) (j121 u h117)) fun j118 =>
 wtS x97 false (kL1 x113 h114 fun x209 =>
 j118 x209 h114) (j118 u h114)) fun j115 =>
 wtS x97 false (kFA 1 x110 fun x210 =>
 j115 x210 h111) (j115 u h111)) fun j112 =>
 wtS x97 false (kIS 2 x98 x107 fun x211 =>
 j112 x211 h108) (j112 u h108)) fun j109 =>
 wtS x97 false (kBin .sub x104 (qi 1) fun x212 =>
 j109 x212 h105) (j109 u h105)) fun j106 =>
 wtS x97 false (kLen x101 fun x213 =>
 j106 x213 h102) (j106 u h102)) fun j103 =>
 wtS x97 false (j103 x95 h99) (j103 u h99)) fun j100 =>
 wtS x97 false (j100 x95 h91) (j100 u h91)) (some (.tup [], h85))) k x0 u u x3 u u u u u u u u u u u u u u u (qi 0) u u u u u u u u u u u u u u u u u u u u u u u u u u u u u u u u u u u u u u u u h24))
theorem p32_ok (k : Nat) : p32 k = funcS k 2 lit32 := by kernel_rfl
def p34 (_ : Nat) : CtxK → List V → TH → R := fun _ => ap 1 (fun x0 h1 =>
 kNew (V.cellsR x0) h1 fun x2 h3 =>
 kNew zr0 h3 fun x4 h5 =>
 kFA 48 x2 fun x6 =>
 kL1 x6 h5 fun x7 =>
 kLen x7 fun x8 =>
 kMS 8 40 zr2 x8 x8 h5 fun x9 h10 =>
 kFA 48 x2 fun x11 =>
 kL1 x11 h10 fun x12 =>
 kCo 8 x9 x12 h10 fun x13 h14 =>
 kFA 48 x2 fun x15 =>
 kS1 x15 x9 h14 fun _ h17 =>
 kLA 49 x2 h17 fun x18 =>
 kSA 49 x4 x18 h17 fun _ h20 =>
 rsS [.cell 2 true 49] [x0, x2, x4, x9, x6, x7, x8, x9, x9, x11, x12, x13, x9, x15, x18] h20)
theorem p34_ok (k : Nat) : p34 k = funcS k 1 lit34 := by kernel_rfl
def p35 (_ : Nat) : CtxK → List V → TH → R := fun X => ap 2 (fun x0 x1 h2 =>
 kCall X 44 [x0, x1] h2 fun x3 h4 =>
 kP (fieldE false 0 1 x3) fun x5 =>
 some (x5, h4))
theorem p35_ok (k : Nat) : p35 k = funcS k 2 lit35 := by kernel_rfl
def p40 (_ : Nat) : CtxK → List V → TH → R := fun X => ap 2 (fun x0 x1 h2 =>
 kNew zr1 h2 fun x3 h4 =>
 kCall X 65 [x0, (qb 7), x1] h4 fun x5 h6 =>
 kSA 131 x3 x5 h6 fun _ h8 =>
 rsS [.cell 4 true 131] [x0, x1, u, u, x3, x0, x1, x5] h8)
theorem p40_ok (k : Nat) : p40 k = funcS k 2 lit40 := by kernel_rfl
def p46 (_ : Nat) : CtxK → List V → TH → R := fun X => ap 1 (fun x0 h1 =>
 kNew (V.cellsR x0) h1 fun x2 h3 =>
 kLA 131 x2 h3 fun x4 =>
 kCall X 80 [x4] h3 fun x5 h6 =>
 kNot x5 fun x7 =>
 jc (α := JT) (fun x8 h9 =>
 jc (α := JT) (fun x11 h12 =>
 jc (α := JT) (fun x14 h15 =>
 jc (α := JT) (fun x17 h18 =>
 jc (α := JT) (fun x20 h21 =>
 kPick x7 qt x20 fun x23 =>
 brS x23 (some (qf, h21)) (kFA 0 x2 fun x24 =>
 kL1 x24 h21 fun x25 =>
 kCall X 81 [x25] h21 fun x26 h27 =>
 kNew zr3 h27 fun x28 h29 =>
 kSA 11 x28 x26 h29 fun _ h31 =>
 kLA 131 x2 h31 fun x32 =>
 kLA 11 x28 h31 fun x33 =>
 kCall X 82 [x32, x33] h31 fun x34 h35 =>
 jc (α := JT) (fun x36 h37 =>
 jc (α := JT) (fun x39 h40 =>
 jc (α := JT) (fun x42 h43 =>
 jc (α := JT) (fun x45 h46 =>
 jc (α := JT) (fun x48 h49 =>
 jc (α := JT) (fun x51 h52 =>
 jc (α := JT) (fun x54 h55 =>
 kPick x34 x54 qf fun x57 =>
 jc (α := JT) (fun x58 h59 =>
 jc (α := JT) (fun x61 h62 =>
 jc (α := JT) (fun x64 h65 =>
 jc (α := JT) (fun x67 h68 =>
 jc (α := JT) (fun x70 h71 =>
 jc (α := JT) (fun x73 h74 =>
 jc (α := JT) (fun x76 h77 =>
 kPick x57 x76 qf fun x79 =>
 jc (α := JT) (fun x80 h81 =>
 jc (α := JT) (fun x83 h84 =>
 jc (α := JT) (fun x86 h87 =>
 jc (α := JT) (fun x89 h90 =>
 jc (α := JT) (fun x92 h93 =>
 jc (α := JT) (fun x95 h96 =>
 jc (α := JT) (fun x98 h99 =>
 kPick x79 x98 qf fun x101 =>
 jc (α := JT) (fun x102 h103 =>
 jc (α := JT) (fun x105 h106 =>
 jc (α := JT) (fun x108 h109 =>
 kPick x101 x108 qf fun x111 =>
 jc (α := JT) (fun x112 h113 =>
 jc (α := JT) (fun x115 h116 =>
 jc (α := JT) (fun x118 h119 =>
 jc (α := JT) (fun x121 h122 =>
 jc (α := JT) (fun x124 h125 =>
 jc (α := JT) (fun x127 h128 =>
 jc (α := JT) (fun x130 h131 =>
 jc (α := JT) (fun x133 h134 =>
 kPick x111 x133 qf fun x136 =>
 jc (α := JT) (fun x137 h138 =>
 jc (α := JT) (fun x140 h141 =>
 jc (α := JT) (fun x143 h144 =>
 jc (α := JT) (fun x146 h147 =>
 jc (α := JT) (fun x149 h150 =>
 jc (α := JT) (fun x152 h153 =>
 jc (α := JT) (fun x155 h156 =>
 jc (α := JT) (fun x158 h159 =>
 kPick x136 x158 qf fun x161 =>
 jc (α := JT) (fun x162 h163 =>
 jc (α := JT) (fun x165 h166 =>
 jc (α := JT) (fun x168 h169 =>
 jc (α := JT) (fun x171 h172 =>
 jc (α := JT) (fun x174 h175 =>
 jc (α := JT) (fun x177 h178 =>
 jc (α := JT) (fun x180 h181 =>
 jc (α := JT) (fun x183 h184 =>
 kPick x161 x183 qf fun x186 =>
 jc (α := JT) (fun x187 h188 =>
 jc (α := JT) (fun x190 h191 =>
 kPick x186 x190 qf fun x193 =>
 jc (α := JT) (fun x194 h195 =>
 jc (α := JT) (fun x197 h198 =>
 jc (α := JT) (fun x200 h201 =>
 jc (α := JT) (fun x203 h204 =>
 jc (α := JT) (fun x206 h207 =>
 jc (α := JT) (fun x209 h210 =>
 jc (α := JT) (fun x212 h213 =>
 kPick x193 x212 qf fun x215 =>
 jc (α := JT) (fun x216 h217 =>
 jc (α := JT) (fun x219 h220 =>
 jc (α := JT) (fun x222 h223 =>
 jc (α := JT) (fun x225 h226 =>
 kPick x215 x225 qf fun x228 =>
 jc (α := JT) (fun x229 h230 =>
 jc (α := JT) (fun x232 h233 =>
 jc (α := JT) (fun x235 h236 =>
 jc (α := JT) (fun x238 h239 =>
 jc (α := JT) (fun x241 h242 =>
 kPick x228 x241 qf fun x244 =>
 some (x244, h242)) fun j243 =>
 wtS x228 true (kBin .leq x238 (qi 80) fun x245 =>
 j243 x245 h239) (j243 u h239)) fun j240 =>
 wtS x228 true (kP (lenV true x235) fun x246 =>
 j240 x246 h236) (j240 u h236)) fun j237 =>
 wtS x228 true (kL1 x232 h233 fun x247 =>
 j237 x247 h233) (j237 u h233)) fun j234 =>
 wtS x228 true (kFA 1 x229 fun x248 =>
 j234 x248 h230) (j234 u h230)) fun j231 =>
 wtS x228 true (kFA 129 x2 fun x249 =>
 j231 x249 h226) (j231 u h226)) fun j227 =>
 wtS x215 true (kBin .leq x222 (qb 3) fun x250 =>
 j227 x250 h223) (j227 u h223)) fun j224 =>
 wtS x215 true (kL1 x219 h220 fun x251 =>
 j224 x251 h220) (j224 u h220)) fun j221 =>
 wtS x215 true (kFA 0 x216 fun x252 =>
 j221 x252 h217) (j221 u h217)) fun j218 =>
 wtS x215 true (kFA 129 x2 fun x253 =>
 j218 x253 h213) (j218 u h213)) fun j214 =>
 wtS x193 true (kPick x203 qt x209 fun x254 =>
 j214 x254 h210) (j214 u h210)) fun j211 =>
 wtS x203 false (kCall X 89 [x206] h207 fun x255 h256 =>
 j211 x255 h256) (j211 u h207)) fun j208 =>
 wtS x203 false (kLA 131 x2 h204 fun x257 =>
 j208 x257 h204) (j208 u h204)) fun j205 =>
 wtS x193 true (j205 x200 h201) (j205 u h201)) fun j202 =>
 wtS x193 true (kNot x197 fun x258 =>
 j202 x258 h198) (j202 u h198)) fun j199 =>
 wtS x193 true (kL1 x194 h195 fun x259 =>
 j199 x259 h195) (j199 u h195)) fun j196 =>
 wtS x193 true (kFA 9 x28 fun x260 =>
 j196 x260 h191) (j196 u h191)) fun j192 =>
 wtS x186 true (kCall X 88 [x187] h188 fun x261 h262 =>
 j192 x261 h262) (j192 u h188)) fun j189 =>
 wtS x186 true (kLA 131 x2 h184 fun x263 =>
 j189 x263 h184) (j189 u h184)) fun j185 =>
 wtS x161 true (kPick x171 qt x180 fun x264 =>
 j185 x264 h181) (j185 u h181)) fun j182 =>
 wtS x171 false (kCall X 87 [x177] h178 fun x265 h266 =>
 j182 x265 h266) (j182 u h178)) fun j179 =>
 wtS x171 false (kLA 8 x174 h175 fun x267 =>
 j179 x267 h175) (j179 u h175)) fun j176 =>
 wtS x171 false (kFA 114 x2 fun x268 =>
 j176 x268 h172) (j176 u h172)) fun j173 =>
 wtS x161 true (j173 x168 h169) (j173 u h169)) fun j170 =>
 wtS x161 true (kNot x165 fun x269 =>
 j170 x269 h166) (j170 u h166)) fun j167 =>
 wtS x161 true (kL1 x162 h163 fun x270 =>
 j167 x270 h163) (j167 u h163)) fun j164 =>
 wtS x161 true (kFA 7 x28 fun x271 =>
 j164 x271 h159) (j164 u h159)) fun j160 =>
 wtS x136 true (kPick x146 qt x155 fun x272 =>
 j160 x272 h156) (j160 u h156)) fun j157 =>
 wtS x146 false (kCall X 86 [x152] h153 fun x273 h274 =>
 j157 x273 h274) (j157 u h153)) fun j154 =>
 wtS x146 false (kLA 52 x149 h150 fun x275 =>
 j154 x275 h150) (j154 u h150)) fun j151 =>
 wtS x146 false (kFA 62 x2 fun x276 =>
 j151 x276 h147) (j151 u h147)) fun j148 =>
 wtS x136 true (j148 x143 h144) (j148 u h144)) fun j145 =>
 wtS x136 true (kNot x140 fun x277 =>
 j145 x277 h141) (j145 u h141)) fun j142 =>
 wtS x136 true (kL1 x137 h138 fun x278 =>
 j142 x278 h138) (j142 u h138)) fun j139 =>
 wtS x136 true (kFA 6 x28 fun x279 =>
 j139 x279 h134) (j139 u h134)) fun j135 =>
 wtS x111 true (kPick x121 qt x130 fun x280 =>
 j135 x280 h131) (j135 u h131)) fun j132 =>
 wtS x121 false (kCall X 47 [x127] h128 fun x281 h282 =>
 j132 x281 h282) (j132 u h128)) fun j129 =>
 wtS x121 false (kLA 49 x124 h125 fun x283 =>
 j129 x283 h125) (j129 u h125)) fun j126 =>
 wtS x121 false (kFA 13 x2 fun x284 =>
 j126 x284 h122) (j126 u h122)) fun j123 =>
 wtS x111 true (j123 x118 h119) (j123 u h119)) fun j120 =>
 wtS x111 true (kNot x115 fun x285 =>
 j120 x285 h116) (j120 u h116)) fun j117 =>
 wtS x111 true (kL1 x112 h113 fun x286 =>
 j117 x286 h113) (j117 u h113)) fun j114 =>
 wtS x111 true (kFA 5 x28 fun x287 =>
 j114 x287 h109) (j114 u h109)) fun j110 =>
 wtS x101 true (kBin .lss x105 (qb 4) fun x288 =>
 j110 x288 h106) (j110 u h106)) fun j107 =>
 wtS x101 true (kL1 x102 h103 fun x289 =>
 j107 x289 h103) (j107 u h103)) fun j104 =>
 wtS x101 true (kFA 12 x2 fun x290 =>
 j104 x290 h99) (j104 u h99)) fun j100 =>
 wtS x79 true (kPick x89 qt x95 fun x291 =>
 j100 x291 h96) (j100 u h96)) fun j97 =>
 wtS x89 false (kCall X 85 [x92] h93 fun x292 h293 =>
 j97 x292 h293) (j97 u h93)) fun j94 =>
 wtS x89 false (kLA 131 x2 h90 fun x294 =>
 j94 x294 h90) (j94 u h90)) fun j91 =>
 wtS x79 true (j91 x86 h87) (j91 u h87)) fun j88 =>
 wtS x79 true (kNot x83 fun x295 =>
 j88 x295 h84) (j88 u h84)) fun j85 =>
 wtS x79 true (kL1 x80 h81 fun x296 =>
 j85 x296 h81) (j85 u h81)) fun j82 =>
 wtS x79 true (kFA 3 x28 fun x297 =>
 j82 x297 h77) (j82 u h77)) fun j78 =>
 wtS x57 true (kPick x67 qt x73 fun x298 =>
 j78 x298 h74) (j78 u h74)) fun j75 =>
 wtS x67 false (kCall X 84 [x70] h71 fun x299 h300 =>
 j75 x299 h300) (j75 u h71)) fun j72 =>
 wtS x67 false (kLA 131 x2 h68 fun x301 =>
 j72 x301 h68) (j72 u h68)) fun j69 =>
 wtS x57 true (j69 x64 h65) (j69 u h65)) fun j66 =>
 wtS x57 true (kNot x61 fun x302 =>
 j66 x302 h62) (j66 u h62)) fun j63 =>
 wtS x57 true (kL1 x58 h59 fun x303 =>
 j63 x303 h59) (j63 u h59)) fun j60 =>
 wtS x57 true (kFA 1 x28 fun x304 =>
 j60 x304 h55) (j60 u h55)) fun j56 =>
 wtS x34 true (kPick x45 qt x51 fun x305 =>
 j56 x305 h52) (j56 u h52)) fun j53 =>
 wtS x45 false (kCall X 83 [x48] h49 fun x306 h307 =>
 j53 x306 h307) (j53 u h49)) fun j50 =>
 wtS x45 false (kLA 131 x2 h46 fun x308 =>
 j50 x308 h46) (j50 u h46)) fun j47 =>
 wtS x34 true (j47 x42 h43) (j47 u h43)) fun j44 =>
 wtS x34 true (kNot x39 fun x309 =>
 j44 x309 h40) (j44 u h40)) fun j41 =>
 wtS x34 true (kL1 x36 h37 fun x310 =>
 j41 x310 h37) (j41 u h37)) fun j38 =>
 wtS x34 true (kFA 0 x28 fun x311 =>
 j38 x311 h35) (j38 u h35))) fun j22 =>
 wtS x7 false (kEqI false x11 x17 fun x312 =>
 j22 x312 h18) (j22 u h18)) fun j19 =>
 wtS x7 false (kL1 x14 h15 fun x313 =>
 j19 x313 h15) (j19 u h15)) fun j16 =>
 wtS x7 false (kFA 2 x2 fun x314 =>
 j16 x314 h12) (j16 u h12)) fun j13 =>
 wtS x7 false (kL1 x8 h9 fun x315 =>
 j13 x315 h9) (j13 u h9)) fun j10 =>
 wtS x7 false (kFA 1 x2 fun x316 =>
 j10 x316 h6) (j10 u h6))
theorem p46_ok (k : Nat) : p46 k = funcS k 1 lit46 := by kernel_rfl
def p47 (k : Nat) : CtxK → List V → TH → R := fun X => ap 1 (fun x0 h1 =>
 kNew (V.cellsR x0) h1 fun x2 h3 =>
 kFA 0 x2 fun x4 =>
 kL1 x4 h3 fun x5 =>
 kBin .gtr x5 (qw 60) fun x6 =>
 jc (α := JT) (fun x7 h8 =>
 jc (α := JT) (fun x10 h11 =>
 jc (α := JT) (fun x13 h14 =>
 jc (α := JT) (fun x16 h17 =>
 kPick x6 qt x16 fun x19 =>
 jc (α := JT) (fun x20 h21 =>
 jc (α := JT) (fun x23 h24 =>
 jc (α := JT) (fun x26 h27 =>
 jc (α := JT) (fun x29 h30 =>
 jc (α := JT) (fun x32 h33 =>
 kPick x19 qt x32 fun x35 =>
 jc (α := JT) (fun x36 h37 =>
 jc (α := JT) (fun x39 h40 =>
 jc (α := JT) (fun x42 h43 =>
 jc (α := JT) (fun x45 h46 =>
 kPick x35 qt x45 fun x48 =>
 jc (α := JT) (fun x49 h50 =>
 jc (α := JT) (fun x52 h53 =>
 jc (α := JT) (fun x55 h56 =>
 jc (α := JT) (fun x58 h59 =>
 kPick x48 qt x58 fun x61 =>
 brS x61 (some (qf, h59)) (kFA 40 x2 fun x62 =>
 kLA 8 x62 h59 fun x63 =>
 kNew zr2 h59 fun x64 h65 =>
 kSA 8 x64 x63 h65 fun _ h67 =>
 kFA 48 x2 fun x68 =>
 kL1 x68 h67 fun x69 =>
 kLen x69 fun x70 =>
 lp (α := Cur 49) (zN 49) (fun n121 _ _ _ x74 _ _ _ _ _ _ _ _ _ _ _ _ _ _ _ _ _ _ _ _ _ _ _ _ _ _ _ _ _ _ _ _ _ x108 x109 x110 _ _ _ _ _ _ _ _ _ h120 =>
 kBin .lss x110 x109 fun x122 =>
 brS x122 (kIS 8 x108 x110 fun x123 =>
 kLA 8 x123 h120 fun x124 =>
 kNew zr2 h120 fun x125 h126 =>
 kSA 8 x125 x124 h126 fun _ h128 =>
 kLA 8 x74 h128 fun x129 =>
 kLA 8 x125 h128 fun x130 =>
 kCall X 49 [x129, x130] h128 fun x131 h132 =>
 kNot x131 fun x133 =>
 brS x133 (some (qf, h132)) (kLA 8 x125 h132 fun x134 =>
 kSA 8 x74 x134 h132 fun _ h136 =>
 kBin .add x110 (qi 1) fun x137 =>
 n121 u u u x74 u u u u u u u u u u u u u u u u u u u u u u u u u u u u u u u u u x108 x109 x137 u u u u u u u u u h136)) (some (qt, h120))) k u u u x64 u u u u u u u u u u u u u u u u u u u u u u u u u u u u u u u u u x69 x70 (qi 0) u u u u u u u u u h67)) fun j60 =>
 wtS x48 false (kNot x55 fun x138 =>
 j60 x138 h56) (j60 u h56)) fun j57 =>
 wtS x48 false (kCall X 90 [x52] h53 fun x139 h140 =>
 j57 x139 h140) (j57 u h53)) fun j54 =>
 wtS x48 false (kLA 39 x49 h50 fun x141 =>
 j54 x141 h50) (j54 u h50)) fun j51 =>
 wtS x48 false (kFA 1 x2 fun x142 =>
 j51 x142 h46) (j51 u h46)) fun j47 =>
 wtS x35 false (kBin .gtr x42 (qi 6) fun x143 =>
 j47 x143 h43) (j47 u h43)) fun j44 =>
 wtS x35 false (kLen x39 fun x144 =>
 j44 x144 h40) (j44 u h40)) fun j41 =>
 wtS x35 false (kL1 x36 h37 fun x145 =>
 j41 x145 h37) (j41 u h37)) fun j38 =>
 wtS x35 false (kFA 48 x2 fun x146 =>
 j38 x146 h33) (j38 u h33)) fun j34 =>
 wtS x19 false (kEq' true (.agg [.int, .int, .int, .int, .int, .str]) x26 x29 fun x147 =>
 j34 x147 h30) (j34 u h30)) fun j31 =>
 wtS x19 false (kB [(qb 0), (qw 0), (qb 0), (qb 0), (qb 0), qs] [] fun x148 =>
 j31 x148 h27) (j31 u h27)) fun j28 =>
 wtS x19 false (kLA 6 x23 h24 fun x149 =>
 j28 x149 h24) (j28 u h24)) fun j25 =>
 wtS x19 false (kFA 2 x20 fun x150 =>
 j25 x150 h21) (j25 u h21)) fun j22 =>
 wtS x19 false (kFA 40 x2 fun x151 =>
 j22 x151 h17) (j22 u h17)) fun j18 =>
 wtS x6 false (kBin .gtr x13 (qw 60) fun x152 =>
 j18 x152 h14) (j18 u h14)) fun j15 =>
 wtS x6 false (kL1 x10 h11 fun x153 =>
 j15 x153 h11) (j15 u h11)) fun j12 =>
 wtS x6 false (kFA 0 x7 fun x154 =>
 j12 x154 h8) (j12 u h8)) fun j9 =>
 wtS x6 false (kFA 40 x2 fun x155 =>
 j9 x155 h3) (j9 u h3))
theorem p47_ok (k : Nat) : p47 k = funcS k 1 lit47 := by kernel_rfl
def p49 (_ : Nat) : CtxK → List V → TH → R := fun X => ap 2 (fun x0 x1 h2 =>
 kNew (V.cellsR x0) h2 fun x3 h4 =>
 kNew (V.cellsR x1) h4 fun x5 h6 =>
 kFA 2 x5 fun x7 =>
 kLA 6 x7 h6 fun x8 =>
 kCall X 91 [x8] h6 fun x9 h10 =>
 jc (α := JT) (fun x11 h12 =>
 jc (α := JT) (fun x14 h15 =>
 jc (α := JT) (fun x17 h18 =>
 jc (α := JT) (fun x20 h21 =>
 jc (α := JT) (fun x23 h24 =>
 jc (α := JT) (fun x26 h27 =>
 kPick x9 x26 qf fun x29 =>
 jc (α := JT) (fun x30 h31 =>
 jc (α := JT) (fun x33 h34 =>
 jc (α := JT) (fun x36 h37 =>
 jc (α := JT) (fun x39 h40 =>
 jc (α := JT) (fun x42 h43 =>
 kPick x29 x42 qf fun x45 =>
 jc (α := JT) (fun x46 h47 =>
 jc (α := JT) (fun x49 h50 =>
 jc (α := JT) (fun x52 h53 =>
 jc (α := JT) (fun x55 h56 =>
 jc (α := JT) (fun x58 h59 =>
 kPick x45 x58 qf fun x61 =>
 jc (α := JT) (fun x62 h63 =>
 jc (α := JT) (fun x65 h66 =>
 jc (α := JT) (fun x68 h69 =>
 kPick x61 x68 qf fun x71 =>
 some (x71, h69)) fun j70 =>
 wtS x61 true (kBin .leq x65 (qw 60) fun x72 =>
 j70 x72 h66) (j70 u h66)) fun j67 =>
 wtS x61 true (kL1 x62 h63 fun x73 =>
 j67 x73 h63) (j67 u h63)) fun j64 =>
 wtS x61 true (kFA 0 x5 fun x74 =>
 j64 x74 h59) (j64 u h59)) fun j60 =>
 wtS x45 true (kBin .geq x49 x55 fun x75 =>
 j60 x75 h56) (j60 u h56)) fun j57 =>
 wtS x45 true (kL1 x52 h53 fun x76 =>
 j57 x76 h53) (j57 u h53)) fun j54 =>
 wtS x45 true (kFA 0 x3 fun x77 =>
 j54 x77 h50) (j54 u h50)) fun j51 =>
 wtS x45 true (kL1 x46 h47 fun x78 =>
 j51 x78 h47) (j51 u h47)) fun j48 =>
 wtS x45 true (kFA 0 x5 fun x79 =>
 j48 x79 h43) (j48 u h43)) fun j44 =>
 wtS x29 true (kBin .gtr x33 x39 fun x80 =>
 j44 x80 h40) (j44 u h40)) fun j41 =>
 wtS x29 true (kL1 x36 h37 fun x81 =>
 j41 x81 h37) (j41 u h37)) fun j38 =>
 wtS x29 true (kFA 1 x3 fun x82 =>
 j38 x82 h34) (j38 u h34)) fun j35 =>
 wtS x29 true (kL1 x30 h31 fun x83 =>
 j35 x83 h31) (j35 u h31)) fun j32 =>
 wtS x29 true (kFA 1 x5 fun x84 =>
 j32 x84 h27) (j32 u h27)) fun j28 =>
 wtS x9 true (kEqI false x14 x23 fun x85 =>
 j28 x85 h24) (j28 u h24)) fun j25 =>
 wtS x9 true (kBin .add x20 (qw 1) fun x86 =>
 j25 x86 h21) (j25 u h21)) fun j22 =>
 wtS x9 true (kL1 x17 h18 fun x87 =>
 j22 x87 h18) (j22 u h18)) fun j19 =>
 wtS x9 true (kFA 1 x3 fun x88 =>
 j19 x88 h15) (j19 u h15)) fun j16 =>
 wtS x9 true (kL1 x11 h12 fun x89 =>
 j16 x89 h12) (j16 u h12)) fun j13 =>
 wtS x9 true (kFA 1 x5 fun x90 =>
 j13 x90 h10) (j13 u h10))
theorem p49_ok (k : Nat) : p49 k = funcS k 2 lit49 := by kernel_rfl
def p53 (k : Nat) : CtxK → List V → TH → R := fun _ => ap 2 (fun x0 x1 h2 =>
 kLen x0 fun x3 =>
 kLen x1 fun x4 =>
 kEqI true x3 x4 fun x5 =>
 brS x5 (some (qf, h2)) (kLen x0 fun x6 =>
 lp (α := Cur 26) (zN 26) (fun n34 x7 x8 _ _ _ _ _ _ _ _ _ _ x19 x20 _ _ _ _ _ _ _ _ _ _ _ _ h33 =>
 kBin .lss x20 x19 fun x35 =>
 brS x35 (kIS 8 x7 x20 fun x36 =>
 kLA 8 x36 h33 fun x39 =>
 kIS 8 x8 x20 fun x40 =>
 kLA 8 x40 h33 fun x43 =>
 kEq' true (.agg [.int, .int, .int, .int, .int, .int, .int, .str]) x39 x43 fun x44 =>
 dokS [h33] [] (brS x44 (some (qf, h33)) (kBin .add x20 (qi 1) fun x45 =>
 n34 x7 x8 u u u u u u u u u u x19 x45 u u u u u u u u u u u u h33))) (some (qt, h33))) k x0 x1 u u u u u u u u u u x6 (qi 0) u u u u u u u u u u u u h2))
theorem p53_ok (k : Nat) : p53 k = funcS k 2 lit53 := by kernel_rfl
def p59 (k : Nat) : CtxK → List V → TH → R := fun _ => ap 2 (fun x0 x1 h2 =>
 kLen x0 fun x3 =>
 lp (α := Cur 19) (zN 19) (fun n24 x4 x5 _ _ _ _ _ x11 x12 _ _ _ _ _ _ _ _ _ _ h23 =>
 kBin .lss x12 x11 fun x25 =>
 brS x25 (kIS 1 x4 x12 fun x26 =>
 kL1 x26 h23 fun x27 =>
 kEqI false x5 x27 fun x28 =>
 brS x28 (some (x12, h23)) (kBin .add x12 (qi 1) fun x29 =>
 n24 x4 x5 u u u u u x11 x29 u u u u u u u u u u h23)) (some ((.int .i64 (-1)), h23))) k x0 x1 u u u u u x3 (qi 0) u u u u u u u u u u h2)
theorem p59_ok (k : Nat) : p59 k = funcS k 2 lit59 := by kernel_rfl
def p63 (_ : Nat) : CtxK → List V → TH → R := fun _ => ap 1 (fun x0 h1 =>
 kNilc x0 fun x2 =>
 kFA 2 x2 fun x3 =>
 kL1 x3 h1 fun x4 =>
 some (x4, h1))
theorem p63_ok (k : Nat) : p63 k = funcS k 1 lit63 := by kernel_rfl
def p66 (_ : Nat) : CtxK → List V → TH → R := fun X => ap 4 (fun x0 x1 x2 x3 h4 =>
 kNew (V.cellsR x2) h4 fun x5 h6 =>
 kL1 x5 h6 fun x7 =>
 kCall X 104 [x0, x1, x7, x3] h6 fun x8 h9 =>
 kLen x8 fun x10 =>
 kEqI false x10 (qi 0) fun x11 =>
 jc (α := JT) (fun x12 h13 =>
 jc (α := JT) (fun x15 h16 =>
 jc (α := JT) (fun x18 h19 =>
 jc (α := JT) (fun x21 h22 =>
 jc (α := JT) (fun x24 h25 =>
 jc (α := JT) (fun x27 h28 =>
 kPick x11 x27 qf fun x30 =>
 some (x30, h28)) fun j29 =>
 wtS x11 true (kNot x24 fun x31 =>
 j29 x31 h25) (j29 u h25)) fun j26 =>
 wtS x11 true (kCall X 105 [x18, x21] h22 fun x32 h33 =>
 j26 x32 h33) (j26 u h22)) fun j23 =>
 wtS x11 true (j23 (.fn 103 [] [x5]) h19) (j23 u h19)) fun j20 =>
 wtS x11 true (kCall X 12 [x12, x15] h16 fun x34 h35 =>
 j20 x34 h35) (j20 u h16)) fun j17 =>
 wtS x11 true (j17 x1 h13) (j17 u h13)) fun j14 =>
 wtS x11 true (j14 x0 h9) (j14 u h9))
theorem p66_ok (k : Nat) : p66 k = funcS k 4 lit66 := by kernel_rfl
def p71 (_ : Nat) : CtxK → List V → TH → R := fun X => ap 3 (fun x0 _ x2 h3 =>
 kNew (V.cellsR x2) h3 fun x4 h5 =>
 kLA 131 x4 h5 fun x6 =>
 kCall X 110 [x6] h5 fun x7 h8 =>
 kCall X 37 [x0] h8 fun x9 h10 =>
 kEqI true x7 x9 fun x11 =>
 brS x11 (some (.nils, h10)) (kLA 131 x4 h10 fun x12 =>
 kCall X 110 [x12] h10 fun x13 h14 =>
 kCall X 65 [x0, (qb 8), x13] h14 fun x15 h16 =>
 kNew zr1 h16 fun x17 h18 =>
 kSA 131 x17 x15 h18 fun _ h20 =>
 kNilc x0 fun x21 =>
 kFA 3 x21 fun x22 =>
 kLA 49 x22 h20 fun x23 =>
 kFA 13 x17 fun x24 =>
 kSA 49 x24 x23 h20 fun _ h26 =>
 kLA 131 x17 h26 fun x27 =>
 kBS 131 zr1 1 [(0, 131, x27)] h26 fun x28 h29 =>
 some (x28, h29)))
theorem p71_ok (k : Nat) : p71 k = funcS k 3 lit71 := by kernel_rfl
def p72 (_ : Nat) : CtxK → List V → TH → R := fun X => ap 3 (fun x0 x1 x2 h3 =>
 kNew (V.cellsR x2) h3 fun x4 h5 =>
 kLA 131 x4 h5 fun x6 =>
 kCall X 110 [x6] h5 fun x7 h8 =>
 kNilc x0 fun x9 =>
 kFA 1 x9 fun x10 =>
 kL1 x10 h8 fun x11 =>
 kEqI true x11 (qi 2) fun x12 =>
 jc (α := JT) (fun x13 h14 =>
 jc (α := JT) (fun x16 h17 =>
 jc (α := JT) (fun x19 h20 =>
 jc (α := JT) (fun x22 h23 =>
 jc (α := JT) (fun x25 h26 =>
 jc (α := JT) (fun x28 h29 =>
 kPick x12 qt x28 fun x31 =>
 brS x31 (some (.nils, h29)) (kFA 13 x4 fun x32 =>
 kLA 49 x32 h29 fun x35 =>
 kNilc x0 fun x36 =>
 kFA 54 x36 fun x37 =>
 kIA 5 1 x37 x7 fun x38 =>
 kNilc x0 fun x39 =>
 kFA 64 x39 fun x40 =>
 kS1 x38 qt h29 fun _ h42 =>
 kIA 5 49 x40 x7 fun x43 =>
 kSA 49 x43 x35 h42 fun _ h45 =>
 dokS [h29, h42, h45] ((fun h33 => kLA 49 x32 h33 fun x34 =>
 some (x34, h33), x35, 0, 1) :: []) (kCall X 41 [x0, x1] h45 fun x46 h47 =>
 some (x46, h47)))) fun j30 =>
 wtS x12 false (kL1 x25 h26 fun x48 =>
 j30 x48 h26) (j30 u h26)) fun j27 =>
 wtS x12 false (kIA 5 1 x22 x16 fun x49 =>
 j27 x49 h23) (j27 u h23)) fun j24 =>
 wtS x12 false (kFA 54 x19 fun x50 =>
 j24 x50 h20) (j24 u h20)) fun j21 =>
 wtS x12 false (kNilc x13 fun x51 =>
 j21 x51 h17) (j21 u h17)) fun j18 =>
 wtS x12 false (j18 x7 h14) (j18 u h14)) fun j15 =>
 wtS x12 false (j15 x0 h8) (j15 u h8))
theorem p72_ok (k : Nat) : p72 k = funcS k 3 lit72 := by kernel_rfl
def p74 (_ : Nat) : CtxK → List V → TH → R := fun X => ap 3 (fun x0 _ x2 h3 =>
 kNew (V.cellsR x2) h3 fun x4 h5 =>
 kLA 131 x4 h5 fun x8 =>
 kCall X 114 [x0, (qi 3), x8] h5 fun x9 h10 =>
 kNot x9 fun x11 =>
 jc (α := JT) (fun x12 h13 =>
 jc (α := V → TH → PD → R) (fun x17 h18 d19 =>
 jc (α := JT) (fun x21 h22 =>
 jc (α := JT) (fun x24 h25 =>
 jc (α := JT) (fun x27 h28 =>
 kPick x11 qt x27 fun x30 =>
 dokS [h5, h22, h28] d19 (brS x30 (some (.nils, h28)) (kLA 131 x4 h28 fun x33 =>
 kNilc x0 fun x34 =>
 kFA 59 x34 fun x35 =>
 kCall X 110 [x33] h28 fun x36 h37 =>
 kIA 5 1 x35 x36 fun x38 =>
 kS1 x38 qt h37 fun _ h40 =>
 dokS [h28, h37, h40] [] (kNilc x0 fun x41 =>
 kFA 59 x41 fun x42 =>
 kLA 5 x42 h40 fun x45 =>
 kNilc x0 fun x46 =>
 kFA 53 x46 fun x47 =>
 kL1 x47 h40 fun x50 =>
 kCall X 116 [x45, x50] h40 fun x51 h52 =>
 dokS [h40, h52] [] (jc (α := Cur 36) (fun _ _ _ _ _ _ _ _ _ _ _ _ _ _ _ _ _ _ _ _ _ _ _ _ _ _ _ _ _ _ _ _ _ _ _ _ h89 =>
 some (.nils, h89)) fun j90 =>
 brS x51 (kNilc x0 fun x91 =>
 kFA 1 x91 fun x92 =>
 kS1 x92 (qi 4) h52 fun _ h94 =>
 j90 u u u u u u u u u u u u u u u u u u u u u u u u u u u u u u u u u u u u h94) (j90 u u u u u u u u u u u u u u u u u u u u u u u u u u u u u u u u u u u u h52)))))) fun j29 =>
 wtS x11 false (kEqI true x17 x24 fun x95 =>
 j29 x95 h25) (j29 u h25)) fun j26 =>
 wtS x11 false (kCall X 115 [x21] h22 fun x96 h97 =>
 j26 x96 h97) (j26 u h22)) fun j23 =>
 wtS x11 false (j23 x0 h18) (j23 u h18)) fun j20 =>
 wtS x11 false (kL1 x12 h13 fun x98 =>
 j20 x98 h13 ((fun h15 => kL1 x12 h15 fun x16 =>
 some (x16, h15), x98, 1, 2) :: [])) (j20 u h13 [])) fun j14 =>
 wtS x11 false (kFA 122 x4 fun x99 =>
 j14 x99 h10) (j14 u h10))
theorem p74_ok (k : Nat) : p74 k = funcS k 3 lit74 := by kernel_rfl
def p82 (_ : Nat) : CtxK → List V → TH → R := fun X => ap 2 (fun x0 x1 h2 =>
 kNew (V.cellsR x0) h2 fun x3 h4 =>
 kNew (V.cellsR x1) h4 fun x5 h6 =>
 kFA 62 x3 fun x7 =>
 kFA 2 x7 fun x8 =>
 kL1 x8 h6 fun x9 =>
 kLen x9 fun x10 =>
 kEqI false x10 (qi 0) fun x11 =>
 jc (α := JT) (fun x12 h13 =>
 jc (α := JT) (fun x15 h16 =>
 jc (α := JT) (fun x18 h19 =>
 jc (α := JT) (fun x21 h22 =>
 kPick x11 x21 qf fun x24 =>
 jc (α := JT) (fun x25 h26 =>
 jc (α := JT) (fun x28 h29 =>
 jc (α := JT) (fun x31 h32 =>
 jc (α := JT) (fun x34 h35 =>
 kPick x24 x34 qf fun x37 =>
 jc (α := JT) (fun x38 h39 =>
 jc (α := JT) (fun x41 h42 =>
 jc (α := JT) (fun x44 h45 =>
 jc (α := JT) (fun x47 h48 =>
 jc (α := JT) (fun x50 h51 =>
 kPick x37 x50 qf fun x53 =>
 kFA 0 x5 fun x54 =>
 kL1 x54 h51 fun x57 =>
 jc (α := JT) (fun x58 h59 =>
 jc (α := V → TH → PD → R) (fun x63 h64 d65 =>
 jc (α := JT) (fun x67 h68 =>
 kPick x57 qt x67 fun x70 =>
 kFA 1 x5 fun x71 =>
 kL1 x71 h68 fun x74 =>
 jc (α := JT) (fun x75 h76 =>
 jc (α := V → TH → PD → R) (fun x80 h81 d82 =>
 jc (α := JT) (fun x84 h85 =>
 jc (α := JT) (fun x87 h88 =>
 kPick x74 qt x87 fun x90 =>
 kFA 2 x5 fun x91 =>
 kL1 x91 h88 fun x94 =>
 jc (α := JT) (fun x95 h96 =>
 jc (α := V → TH → PD → R) (fun x100 h101 d102 =>
 jc (α := JT) (fun x104 h105 =>
 jc (α := JT) (fun x107 h108 =>
 jc (α := JT) (fun x110 h111 =>
 jc (α := JT) (fun x113 h114 =>
 jc (α := V → TH → PD → R) (fun x118 h119 d120 =>
 jc (α := JT) (fun x122 h123 =>
 jc (α := JT) (fun x125 h126 =>
 kPick x94 qt x125 fun x128 =>
 kFA 3 x5 fun x129 =>
 kL1 x129 h126 fun x132 =>
 jc (α := JT) (fun x133 h134 =>
 jc (α := V → TH → PD → R) (fun x138 h139 d140 =>
 jc (α := JT) (fun x142 h143 =>
 jc (α := JT) (fun x145 h146 =>
 kPick x132 qt x145 fun x148 =>
 kFA 4 x5 fun x149 =>
 kL1 x149 h146 fun x152 =>
 jc (α := JT) (fun x153 h154 =>
 jc (α := V → TH → PD → R) (fun x158 h159 d160 =>
 jc (α := JT) (fun x162 h163 =>
 kPick x152 qt x162 fun x165 =>
 kFA 5 x5 fun x166 =>
 kL1 x166 h163 fun x169 =>
 jc (α := JT) (fun x170 h171 =>
 jc (α := V → TH → PD → R) (fun x175 h176 d177 =>
 jc (α := JT) (fun x179 h180 =>
 kFA 6 x5 fun x182 =>
 kL1 x182 h180 fun x185 =>
 kFA 7 x5 fun x186 =>
 kL1 x186 h180 fun x189 =>
 kFA 8 x5 fun x190 =>
 kL1 x190 h180 fun x193 =>
 kFA 9 x5 fun x194 =>
 kL1 x194 h180 fun x197 =>
 kFA 10 x5 fun x198 =>
 kL1 x198 h180 fun x201 =>
 jc (α := JT) (fun x202 h203 =>
 kPick x169 qt x202 fun x205 =>
 jc (α := JT) (fun x206 h207 =>
 kPick x185 qt x206 fun x209 =>
 jc (α := JT) (fun x210 h211 =>
 jc (α := V → TH → PD → R) (fun x215 h216 d217 =>
 jc (α := JT) (fun x219 h220 =>
 jc (α := JT) (fun x222 h223 =>
 kPick x189 qt x222 fun x225 =>
 jc (α := JT) (fun x226 h227 =>
 jc (α := V → TH → PD → R) (fun x231 h232 d233 =>
 jc (α := JT) (fun x235 h236 =>
 kPick x193 qt x235 fun x238 =>
 jc (α := JT) (fun x239 h240 =>
 jc (α := V → TH → PD → R) (fun x244 h245 d246 =>
 jc (α := JT) (fun x248 h249 =>
 jc (α := JT) (fun x251 h252 =>
 kPick x197 qt x251 fun x254 =>
 jc (α := JT) (fun x255 h256 =>
 jc (α := V → TH → PD → R) (fun x260 h261 d262 =>
 jc (α := JT) (fun x264 h265 =>
 jc (α := JT) (fun x267 h268 =>
 kPick x201 qt x267 fun x270 =>
 kBS 1 [qf] 11 [(0, 1, x70), (1, 1, x90), (2, 1, x128), (3, 1, x148), (4, 1, x165), (5, 1, x205), (6, 1, x209), (7, 1, x225), (8, 1, x238), (9, 1, x254), (10, 1, x270)] h268 fun x271 h272 =>
 dokS [h180, h272] d262 (kCall X 126 [x271, qf] h272 fun x273 h274 =>
 kNot x273 fun x275 =>
 some (x275, h274))) fun j269 =>
 wtS x201 false (kEq' false (.agg [.int, .str]) x260 x264 fun x276 =>
 j269 x276 h265) (j269 u h265)) fun j266 =>
 wtS x201 false (kB [(qb 0), qs] [] fun x277 =>
 j266 x277 h261) (j266 u h261)) fun j263 =>
 wtS x201 false (kLA 2 x255 h256 fun x278 =>
 j263 x278 h256 d246) (j263 u h256 d246)) fun j257 =>
 wtS x201 false (kFA 129 x3 fun x279 =>
 j257 x279 h252) (j257 u h252)) fun j253 =>
 wtS x197 false (kEq' false (.agg [.int, .int, .int, .int, .int, .str]) x244 x248 fun x280 =>
 j253 x280 h249) (j253 u h249)) fun j250 =>
 wtS x197 false (kB [(qb 0), (qw 0), (qb 0), (qb 0), (qb 0), qs] [] fun x281 =>
 j250 x281 h245) (j250 u h245)) fun j247 =>
 wtS x197 false (kLA 6 x239 h240 fun x282 =>
 j247 x282 h240 d233) (j247 u h240 d233)) fun j241 =>
 wtS x197 false (kFA 123 x3 fun x283 =>
 j241 x283 h236) (j241 u h236)) fun j237 =>
 wtS x193 false (kEqI false x231 (qw 0) fun x284 =>
 j237 x284 h232) (j237 u h232)) fun j234 =>
 wtS x193 false (kL1 x226 h227 fun x285 =>
 j234 x285 h227 d217) (j234 u h227 d217)) fun j228 =>
 wtS x193 false (kFA 122 x3 fun x286 =>
 j228 x286 h223) (j228 u h223)) fun j224 =>
 wtS x189 false (kEq' false (.agg [.int, .int, .int, .int, .int, .int, .int, .str]) x215 x219 fun x287 =>
 j224 x287 h220) (j224 u h220)) fun j221 =>
 wtS x189 false (kB zr2 [] fun x288 =>
 j221 x288 h216) (j221 u h216)) fun j218 =>
 wtS x189 false (kLA 8 x210 h211 fun x289 =>
 j218 x289 h211 ((fun h199 => kL1 x198 h199 fun x200 =>
 some (x200, h199), x201, 0, 1) :: ((fun h195 => kL1 x194 h195 fun x196 =>
 some (x196, h195), x197, 0, 1) :: ((fun h191 => kL1 x190 h191 fun x192 =>
 some (x192, h191), x193, 0, 1) :: ((fun h187 => kL1 x186 h187 fun x188 =>
 some (x188, h187), x189, 0, 1) :: ((fun h183 => kL1 x182 h183 fun x184 =>
 some (x184, h183), x185, 0, 1) :: d177)))))) (j218 u h211 ((fun h199 => kL1 x198 h199 fun x200 =>
 some (x200, h199), x201, 0, 1) :: ((fun h195 => kL1 x194 h195 fun x196 =>
 some (x196, h195), x197, 0, 1) :: ((fun h191 => kL1 x190 h191 fun x192 =>
 some (x192, h191), x193, 0, 1) :: ((fun h187 => kL1 x186 h187 fun x188 =>
 some (x188, h187), x189, 0, 1) :: ((fun h183 => kL1 x182 h183 fun x184 =>
 some (x184, h183), x185, 0, 1) :: d177))))))) fun j212 =>
 wtS x189 false (kFA 114 x3 fun x290 =>
 j212 x290 h207) (j212 u h207)) fun j208 =>
 wtS x185 false (j208 x53 h203) (j208 u h203)) fun j204 =>
 wtS x169 false (kCall X 24 [x175, x179] h180 fun x291 h292 =>
 j204 x291 h292) (j204 u h180)) fun j181 =>
 wtS x169 false (kB zr0 [] fun x293 =>
 j181 x293 h176) (j181 u h176)) fun j178 =>
 wtS x169 false (kLA 49 x170 h171 fun x294 =>
 j178 x294 h171 d160) (j178 u h171 d160)) fun j172 =>
 wtS x169 false (kFA 13 x3 fun x295 =>
 j172 x295 h163) (j172 u h163)) fun j164 =>
 wtS x152 false (kEqI false x158 (qb 0) fun x296 =>
 j164 x296 h159) (j164 u h159)) fun j161 =>
 wtS x152 false (kL1 x153 h154 fun x297 =>
 j161 x297 h154 ((fun h156 => kL1 x153 h156 fun x157 =>
 some (x157, h156), x297, 0, 1) :: d140)) (j161 u h154 d140)) fun j155 =>
 wtS x152 false (kFA 12 x3 fun x298 =>
 j155 x298 h146) (j155 u h146)) fun j147 =>
 wtS x132 false (kEq' false (.agg [.int, .int, .int]) x138 x142 fun x299 =>
 j147 x299 h143) (j147 u h143)) fun j144 =>
 wtS x132 false (kB [(qb 0), (qb 0), (qi 0)] [] fun x300 =>
 j144 x300 h139) (j144 u h139)) fun j141 =>
 wtS x132 false (kLA 3 x133 h134 fun x301 =>
 j141 x301 h134 ((fun h136 => kLA 3 x133 h136 fun x137 =>
 some (x137, h136), x301, 0, 1) :: d120)) (j141 u h134 d120)) fun j135 =>
 wtS x132 false (kFA 9 x3 fun x302 =>
 j135 x302 h126) (j135 u h126)) fun j127 =>
 wtS x94 false (kPick x110 x122 qf fun x303 =>
 j127 x303 h123) (j127 u h123)) fun j124 =>
 wtS x110 true (kNot x118 fun x304 =>
 j124 x304 h119) (j124 u h119)) fun j121 =>
 wtS x110 true (kL1 x113 h114 fun x305 =>
 j121 x305 h114 ((fun h116 => kL1 x113 h116 fun x117 =>
 some (x117, h116), x305, 0, 1) :: d102)) (j121 u h114 d102)) fun j115 =>
 wtS x110 true (kFA 8 x3 fun x306 =>
 j115 x306 h111) (j115 u h111)) fun j112 =>
 wtS x94 false (j112 x107 h108) (j112 u h108)) fun j109 =>
 wtS x94 false (kEq' false (.agg [.int, .int]) x100 x104 fun x307 =>
 j109 x307 h105) (j109 u h105)) fun j106 =>
 wtS x94 false (kB [(qw 0), (qb 0)] [] fun x308 =>
 j106 x308 h101) (j106 u h101)) fun j103 =>
 wtS x94 false (kLA 2 x95 h96 fun x309 =>
 j103 x309 h96 d82) (j103 u h96 d82)) fun j97 =>
 wtS x94 false (kFA 6 x3 fun x310 =>
 j97 x310 h88) (j97 u h88)) fun j89 =>
 wtS x74 false (kEq' false (.agg [.int, .int]) x80 x84 fun x311 =>
 j89 x311 h85) (j89 u h85)) fun j86 =>
 wtS x74 false (kB [(qw 0), (qb 0)] [] fun x312 =>
 j86 x312 h81) (j86 u h81)) fun j83 =>
 wtS x74 false (kLA 2 x75 h76 fun x313 =>
 j83 x313 h76 ((fun h78 => kLA 2 x75 h78 fun x79 =>
 some (x79, h78), x313, 0, 1) :: d65)) (j83 u h76 d65)) fun j77 =>
 wtS x74 false (kFA 4 x3 fun x314 =>
 j77 x314 h68) (j77 u h68)) fun j69 =>
 wtS x57 false (kEqI false x63 (qw 0) fun x315 =>
 j69 x315 h64) (j69 u h64)) fun j66 =>
 wtS x57 false (kL1 x58 h59 fun x316 =>
 j66 x316 h59 ((fun h61 => kL1 x58 h61 fun x62 =>
 some (x62, h61), x316, 0, 1) :: [])) (j66 u h59 [])) fun j60 =>
 wtS x57 false (kFA 3 x3 fun x317 =>
 j60 x317 h51) (j60 u h51)) fun j52 =>
 wtS x37 true (kCall X 24 [x44, x47] h48 fun x318 h319 =>
 j52 x318 h319) (j52 u h48)) fun j49 =>
 wtS x37 true (kB zr0 [] fun x320 =>
 j49 x320 h45) (j49 u h45)) fun j46 =>
 wtS x37 true (kLA 49 x41 h42 fun x321 =>
 j46 x321 h42) (j46 u h42)) fun j43 =>
 wtS x37 true (kFA 3 x38 fun x322 =>
 j43 x322 h39) (j43 u h39)) fun j40 =>
 wtS x37 true (kFA 62 x3 fun x323 =>
 j40 x323 h35) (j40 u h35)) fun j36 =>
 wtS x24 true (kEqI false x31 (qw 0) fun x324 =>
 j36 x324 h32) (j36 u h32)) fun j33 =>
 wtS x24 true (kL1 x28 h29 fun x325 =>
 j33 x325 h29) (j33 u h29)) fun j30 =>
 wtS x24 true (kFA 1 x25 fun x326 =>
 j30 x326 h26) (j30 u h26)) fun j27 =>
 wtS x24 true (kFA 62 x3 fun x327 =>
 j27 x327 h22) (j27 u h22)) fun j23 =>
 wtS x11 true (kEqI false x18 (qi 0) fun x328 =>
 j23 x328 h19) (j23 u h19)) fun j20 =>
 wtS x11 true (kL1 x15 h16 fun x329 =>
 j20 x329 h16) (j20 u h16)) fun j17 =>
 wtS x11 true (kFA 0 x12 fun x330 =>
 j17 x330 h13) (j17 u h13)) fun j14 =>
 wtS x11 true (kFA 62 x3 fun x331 =>
 j14 x331 h6) (j14 u h6))
theorem p82_ok (k : Nat) : p82 k = funcS k 2 lit82 := by kernel_rfl
def p86 (_ : Nat) : CtxK → List V → TH → R := fun X => ap 1 (fun x0 h1 =>
 kNew (V.cellsR x0) h1 fun x2 h3 =>
 kFA 0 x2 fun x4 =>
 kL1 x4 h3 fun x5 =>
 kEqI false x5 (qi 0) fun x6 =>
 brS x6 (kFA 1 x2 fun x7 =>
 kL1 x7 h3 fun x8 =>
 kEqI false x8 (qw 0) fun x9 =>
 jc (α := JT) (fun x10 h11 =>
 jc (α := JT) (fun x13 h14 =>
 jc (α := JT) (fun x16 h17 =>
 jc (α := JT) (fun x19 h20 =>
 kPick x9 x19 qf fun x22 =>
 jc (α := JT) (fun x23 h24 =>
 jc (α := JT) (fun x26 h27 =>
 jc (α := JT) (fun x29 h30 =>
 kPick x22 x29 qf fun x32 =>
 some (x32, h30)) fun j31 =>
 wtS x22 true (kCall X 129 [x26] h27 fun x33 h34 =>
 j31 x33 h34) (j31 u h27)) fun j28 =>
 wtS x22 true (kLA 49 x23 h24 fun x35 =>
 j28 x35 h24) (j28 u h24)) fun j25 =>
 wtS x22 true (kFA 3 x2 fun x36 =>
 j25 x36 h20) (j25 u h20)) fun j21 =>
 wtS x9 true (kEqI false x16 (qi 0) fun x37 =>
 j21 x37 h17) (j21 u h17)) fun j18 =>
 wtS x9 true (kLen x13 fun x38 =>
 j18 x38 h14) (j18 u h14)) fun j15 =>
 wtS x9 true (kL1 x10 h11 fun x39 =>
 j15 x39 h11) (j15 u h11)) fun j12 =>
 wtS x9 true (kFA 2 x2 fun x40 =>
 j12 x40 h3) (j12 u h3)) (kEqI false x5 (qi 2) fun x41 =>
 brS x41 (kFA 1 x2 fun x42 =>
 kL1 x42 h3 fun x43 =>
 kEqI false x43 (qw 0) fun x44 =>
 jc (α := JT) (fun x45 h46 =>
 jc (α := JT) (fun x48 h49 =>
 jc (α := JT) (fun x51 h52 =>
 jc (α := JT) (fun x54 h55 =>
 kPick x44 x54 qf fun x57 =>
 jc (α := JT) (fun x58 h59 =>
 jc (α := JT) (fun x61 h62 =>
 jc (α := JT) (fun x64 h65 =>
 kPick x57 x64 qf fun x67 =>
 some (x67, h65)) fun j66 =>
 wtS x57 true (kCall X 47 [x61] h62 fun x68 h69 =>
 j66 x68 h69) (j66 u h62)) fun j63 =>
 wtS x57 true (kLA 49 x58 h59 fun x70 =>
 j63 x70 h59) (j63 u h59)) fun j60 =>
 wtS x57 true (kFA 3 x2 fun x71 =>
 j60 x71 h55) (j60 u h55)) fun j56 =>
 wtS x44 true (kEqI false x51 (qi 0) fun x72 =>
 j56 x72 h52) (j56 u h52)) fun j53 =>
 wtS x44 true (kLen x48 fun x73 =>
 j53 x73 h49) (j53 u h49)) fun j50 =>
 wtS x44 true (kL1 x45 h46 fun x74 =>
 j50 x74 h46) (j50 u h46)) fun j47 =>
 wtS x44 true (kFA 2 x2 fun x75 =>
 j47 x75 h3) (j47 u h3)) (kFA 2 x2 fun x76 =>
 kL1 x76 h3 fun x77 =>
 kB zr0 [(48, 1, x77)] fun x78 =>
 kNew zr0 h3 fun x79 h80 =>
 kSA 49 x79 x78 h80 fun _ h82 =>
 kFA 2 x2 fun x83 =>
 kL1 x83 h82 fun x84 =>
 kLen x84 fun x85 =>
 kBin .gtr x85 (qi 0) fun x86 =>
 jc (α := Cur 65) (fun _ x88 _ x90 _ _ _ _ _ _ _ _ _ _ _ _ _ _ _ _ _ _ _ _ _ _ _ _ _ _ _ _ _ _ _ _ _ _ _ _ _ _ _ _ _ _ _ _ _ _ _ _ _ _ _ _ _ _ _ _ _ _ _ _ _ h152 =>
 kFA 0 x88 fun x154 =>
 kL1 x154 h152 fun x155 =>
 kEqI false x155 (qi 1) fun x156 =>
 jc (α := JT) (fun x157 h158 =>
 jc (α := JT) (fun x160 h161 =>
 jc (α := JT) (fun x163 h164 =>
 kPick x156 x163 qf fun x166 =>
 jc (α := JT) (fun x167 h168 =>
 jc (α := JT) (fun x170 h171 =>
 kPick x166 x170 qf fun x173 =>
 some (x173, h171)) fun j172 =>
 wtS x166 true (kCall X 47 [x167] h168 fun x174 h175 =>
 j172 x174 h175) (j172 u h168)) fun j169 =>
 wtS x166 true (kLA 49 x90 h164 fun x176 =>
 j169 x176 h164) (j169 u h164)) fun j165 =>
 wtS x156 true (kCall X 129 [x160] h161 fun x177 h178 =>
 j165 x177 h178) (j165 u h161)) fun j162 =>
 wtS x156 true (kLA 49 x157 h158 fun x179 =>
 j162 x179 h158) (j162 u h158)) fun j159 =>
 wtS x156 true (kFA 3 x88 fun x180 =>
 j159 x180 h152) (j159 u h152)) fun j153 =>
 brS x86 (kFA 2 x2 fun x181 =>
 kL1 x181 h82 fun x182 =>
 kIS 8 x182 (qi 0) fun x183 =>
 kFA 1 x183 fun x184 =>
 kL1 x184 h82 fun x185 =>
 kBin .sub x185 (qw 1) fun x186 =>
 kFA 40 x79 fun x187 =>
 kFA 1 x187 fun x188 =>
 kS1 x188 x186 h82 fun _ h190 =>
 j153 u x2 u x79 u u u u u u u u u u u u u u u u u u u u u u u u u u u u u u u u u u u u u u u u u u u u u u u u u u u u u u u u u u u u u h190) (j153 u x2 u x79 u u u u u u u u u u u u u u u u u u u u u u u u u u u u u u u u u u u u u u u u u u u u u u u u u u u u u u u u u u u u u h82))))
theorem p86_ok (k : Nat) : p86 k = funcS k 1 lit86 := by kernel_rfl
def p88 (_ : Nat) : CtxK → List V → TH → R := fun _ => ap 1 (fun x0 h1 =>
 kNew (V.cellsR x0) h1 fun x2 h3 =>
 kFA 0 x2 fun x4 =>
 kL1 x4 h3 fun x5 =>
 kEqI true x5 (qb 17) fun x6 =>
 jc (α := JT) (fun x7 h8 =>
 jc (α := JT) (fun x10 h11 =>
 jc (α := JT) (fun x13 h14 =>
 kPick x6 qt x13 fun x16 =>
 some (x16, h14)) fun j15 =>
 wtS x6 false (kBin .lss x10 (qw 5) fun x17 =>
 j15 x17 h11) (j15 u h11)) fun j12 =>
 wtS x6 false (kL1 x7 h8 fun x18 =>
 j12 x18 h8) (j12 u h8)) fun j9 =>
 wtS x6 false (kFA 122 x2 fun x19 =>
 j9 x19 h3) (j9 u h3))
theorem p88_ok (k : Nat) : p88 k = funcS k 1 lit88 := by kernel_rfl
def p92 (_ : Nat) : CtxK → List V → TH → R := fun X => ap 2 (fun x0 x1 h2 =>
 kNew (V.cellsR x0) h2 fun x3 h4 =>
 kNew (V.cellsR x1) h4 fun x5 h6 =>
 kNew zr6 h6 fun x7 h8 =>
 kNew [(qb 0), qs] h8 fun x9 h10 =>
 kLA 6 x5 h10 fun x11 =>
 kCall X 91 [x11] h10 fun x12 h13 =>
 kNot x12 fun x14 =>
 brS x14 (kLA 39 x3 h13 fun x15 =>
 kB [(qb 0), qs] [(0, 1, (qb 3))] fun x16 =>
 kSA 39 x7 x15 h13 fun _ h18 =>
 kSA 2 x9 x16 h18 fun _ h20 =>
 rsS [.cell 4 true 39, .cell 5 true 2] [x0, x1, x3, x5, x7, x9, u, u, u, u, x11, x12, x14, x15, x16, u, u, u, u, u, u, u, u, u, u, u, u, u, u, u, u, u, u, u, u, u, u, u, u, u, u, u, u, u, u, u, u, u, u, u, u, u, u, u, u, u, u] h20) (kLA 39 x3 h13 fun x21 =>
 kLA 6 x5 h13 fun x22 =>
 kCall X 132 [x21, x22] h13 fun x23 h24 =>
 kExt x23 0 fun x25 =>
 kExt x23 1 fun x26 =>
 kNew [(qb 0), qs] h24 fun x27 h28 =>
 kSA 2 x27 x25 h28 fun _ h30 =>
 brS x26 (kLA 39 x3 h30 fun x33 =>
 kLA 2 x27 h30 fun x36 =>
 kSA 39 x7 x33 h30 fun _ h38 =>
 kSA 2 x9 x36 h38 fun _ h40 =>
 dokS [h30, h38, h40] ((fun h34 => kLA 2 x27 h34 fun x35 =>
 some (x35, h34), x36, 0, 1) :: []) (rsS [.cell 4 true 39, .cell 5 true 2] [x0, x1, x3, x5, x7, x9, x27, x26, u, u, x11, x12, x14, u, u, x23, x21, x22, x23, x25, x26, x26, x33, x36, u, u, u, u, u, u, u, u, u, u, u, u, u, u, u, u, u, u, u, u, u, u, u, u, u, u, u, u, u, u, u, u, u] h40)) (kFA 3 x5 fun x41 =>
 kL1 x41 h30 fun x42 =>
 kFA 0 x3 fun x43 =>
 kIA 6 5 x43 x42 fun x44 =>
 kLA 5 x44 h30 fun x45 =>
 kB [qf, qs, qs, qs, qs] [(0, 5, x45)] fun x46 =>
 kNew (V.cellsR x46) h30 fun x47 h48 =>
 kFA 2 x5 fun x49 =>
 kL1 x49 h48 fun x52 =>
 kLA 6 x5 h48 fun x55 =>
 kNew [(qb 0), qs] h48 fun x56 h57 =>
 kCall X 133 [x52] h57 fun x58 h59 =>
 kCv X x58 [x47, x55] h59 fun x60 h61 =>
 kB [(qb 0), qs] [(0, 1, x60)] fun x62 =>
 kSA 2 x56 x62 h61 fun _ h64 =>
 dokS [h57, h59, h61, h64] ((fun h53 => kLA 6 x5 h53 fun x54 =>
 some (x54, h53), x55, 0, 1) :: []) (kFA 3 x5 fun x65 =>
 kL1 x65 h64 fun x68 =>
 kNilc x47 fun x69 =>
 kFA 0 x69 fun x70 =>
 kLA 5 x70 h64 fun x73 =>
 kFA 0 x3 fun x74 =>
 kIA 6 5 x74 x68 fun x75 =>
 kSA 5 x75 x73 h64 fun _ h77 =>
 dokS [h64, h77] [] (kFA 0 x5 fun x78 =>
 kL1 x78 h77 fun x79 =>
 kBin .sub x79 (qb 1) fun x80 =>
 kFA 1 x5 fun x81 =>
 kL1 x81 h77 fun x82 =>
 kLA 2 x56 h77 fun x83 =>
 kB [(qw 0), (qb 0), qs] [(0, 1, x82), (1, 2, x83)] fun x84 =>
 kFA 30 x3 fun x85 =>
 kIA 3 3 x85 x80 fun x86 =>
 kSA 3 x86 x84 h77 fun _ h88 =>
 kLA 39 x3 h88 fun x91 =>
 kLA 2 x56 h88 fun x94 =>
 kSA 39 x7 x91 h88 fun _ h96 =>
 kSA 2 x9 x94 h96 fun _ h98 =>
 dokS [h88, h96, h98] ((fun h92 => kLA 2 x56 h92 fun x93 =>
 some (x93, h92), x94, 0, 1) :: []) (rsS [.cell 4 true 39, .cell 5 true 2] [x0, x1, x3, x5, x7, x9, x27, x26, x47, x56, x11, x12, x14, u, u, x23, x21, x22, x23, x25, x26, x26, u, u, x41, x42, x43, x44, x45, x46, x47, x49, x52, x58, x47, x55, x60, x62, x65, x68, x47, x69, x70, x73, x74, x75, x78, x79, x80, x81, x82, x83, x84, x85, x86, x91, x94] h98))))))
theorem p92_ok (k : Nat) : p92 k = funcS k 2 lit92 := by kernel_rfl
def p103 (_ : Nat) : CtxK → List V → TH → R := fun X => ap 2 (fun x0 x1 h2 =>
 kL1 x1 h2 fun x3 =>
 kCall X 36 [x3, x0] h2 fun x4 h5 =>
 kNot x4 fun x6 =>
 some (x6, h5))
theorem p103_ok (k : Nat) : p103 k = funcS k 2 lit103 := by kernel_rfl
def p106 (_ : Nat) : CtxK → List V → TH → R := fun X => ap 2 (fun x0 x1 h2 =>
 kCall X 154 [x0, x1] h2 fun x3 h4 =>
 kBin .geq x3 (qi 0) fun x5 =>
 some (x5, h4))
theorem p106_ok (k : Nat) : p106 k = funcS k 2 lit106 := by kernel_rfl
def p109 (_ : Nat) : CtxK → List V → TH → R := fun X => ap 2 (fun x0 x1 h2 =>
 kNew (V.cellsR x0) h2 fun x3 h4 =>
 kNew (V.cellsR x1) h4 fun x5 h6 =>
 kNew zr5 h6 fun x7 h8 =>
 kLA 49 x3 h8 fun x9 =>
 kCall X 47 [x9] h8 fun x10 h11 =>
 kNot x10 fun x12 =>
 jc (α := JT) (fun x13 h14 =>
 jc (α := JT) (fun x16 h17 =>
 jc (α := JT) (fun x19 h20 =>
 kPick x12 qt x19 fun x22 =>
 brS x22 (kB zr5 [] fun x23 =>
 kSA 52 x7 x23 h20 fun _ h25 =>
 rsS [.cell 4 true 52] [x0, x1, x3, x5, x7, u, u, x9, x10, x12, x12, x13, x16, x19, x22, x23, u, u, u, u, u, u, u, u, u, u, u, u, u, u, u, u, u, u, u, u, u, u, u, u, u, u, u, u, u, u, u, u, u, u, u] h25) (kLA 49 x3 h20 fun x26 =>
 kNew zr0 h20 fun x27 h28 =>
 kSA 49 x27 x26 h28 fun _ h30 =>
 kFA 0 x5 fun x31 =>
 kL1 x31 h30 fun x32 =>
 kFA 0 x27 fun x33 =>
 kS1 x33 x32 h30 fun _ h35 =>
 kLA 49 x27 h35 fun x36 =>
 kLA 49 x5 h35 fun x37 =>
 kCall X 24 [x36, x37] h35 fun x38 h39 =>
 brS x38 (kLA 49 x5 h39 fun x40 =>
 kCall X 155 [x40] h39 fun x41 h42 =>
 kB zr5 [(0, 1, (qi 0)), (3, 49, x41)] fun x43 =>
 kSA 52 x7 x43 h42 fun _ h45 =>
 rsS [.cell 4 true 52] [x0, x1, x3, x5, x7, x27, u, x9, x10, x12, x12, x13, x16, x19, x22, u, x26, x31, x32, x33, x38, x36, x37, x38, x40, x41, x43, u, u, u, u, u, u, u, u, u, u, u, u, u, u, u, u, u, u, u, u, u, u, u, u] h45) (kLA 49 x3 h39 fun x46 =>
 kLA 49 x5 h39 fun x47 =>
 kCall X 156 [x46, x47] h39 fun x48 h49 =>
 kNot x48 fun x50 =>
 brS x50 (kLA 49 x5 h49 fun x51 =>
 kCall X 34 [x51] h49 fun x52 h53 =>
 kB zr5 [(0, 1, (qi 2)), (3, 49, x52)] fun x54 =>
 kSA 52 x7 x54 h53 fun _ h56 =>
 rsS [.cell 4 true 52] [x0, x1, x3, x5, x7, x27, u, x9, x10, x12, x12, x13, x16, x19, x22, u, x26, x31, x32, x33, x38, x36, x37, x38, u, u, u, x50, x46, x47, x48, x50, x51, x52, x54, u, u, u, u, u, u, u, u, u, u, u, u, u, u, u, u] h56) (kLA 49 x3 h49 fun x57 =>
 kLA 49 x5 h49 fun x58 =>
 kCall X 157 [x57, x58] h49 fun x59 h60 =>
 kFA 48 x5 fun x61 =>
 kL1 x61 h60 fun x64 =>
 kFA 40 x5 fun x65 =>
 kFA 1 x65 fun x66 =>
 kL1 x66 h60 fun x69 =>
 kBin .sub x59 x69 fun x70 =>
 kP (sliceE 8 x64 (some x70) none) fun x71 =>
 kLA 49 x5 h60 fun x74 =>
 kCall X 50 [x71] h60 fun x75 h76 =>
 kCall X 155 [x74] h76 fun x77 h78 =>
 kB zr5 [(0, 1, (qi 1)), (1, 1, x59), (2, 1, x75), (3, 49, x77)] fun x79 =>
 kSA 52 x7 x79 h78 fun _ h81 =>
 dokS [h60, h76, h78, h81] ((fun h72 => kLA 49 x5 h72 fun x73 =>
 some (x73, h72), x74, 0, 1) :: []) (rsS [.cell 4 true 52] [x0, x1, x3, x5, x7, x27, x59, x9, x10, x12, x12, x13, x16, x19, x22, u, x26, x31, x32, x33, x38, x36, x37, x38, u, u, u, x50, x46, x47, x48, x50, u, u, u, x57, x58, x59, x59, x61, x64, x59, x65, x66, x69, x70, x71, x75, x74, x77, x79] h81))))) fun j21 =>
 wtS x12 false (kNot x16 fun x82 =>
 j21 x82 h17) (j21 u h17)) fun j18 =>
 wtS x12 false (kCall X 47 [x13] h14 fun x83 h84 =>
 j18 x83 h84) (j18 u h14)) fun j15 =>
 wtS x12 false (kLA 49 x5 h11 fun x85 =>
 j15 x85 h11) (j15 u h11))
theorem p109_ok (k : Nat) : p109 k = funcS k 2 lit109 := by kernel_rfl
def p115 (_ : Nat) : CtxK → List V → TH → R := fun X => ap 1 (fun x0 h1 =>
 kNilc x0 fun x2 =>
 kFA 3 x2 fun x3 =>
 kLA 49 x3 h1 fun x4 =>
 kCall X 18 [x4] h1 fun x5 h6 =>
 kExt x5 0 fun _ =>
 kExt x5 1 fun x8 =>
 some (x8, h6))
theorem p115_ok (k : Nat) : p115 k = funcS k 1 lit115 := by kernel_rfl
def p122 (_ : Nat) : CtxK → List V → TH → R := fun _ => ap 1 (fun x0 h1 =>
 kBin .lss x0 (qb 3) fun x2 =>
 some (x2, h1))
theorem p122_ok (k : Nat) : p122 k = funcS k 1 lit122 := by kernel_rfl
def p124 (_ : Nat) : CtxK → List V → TH → R := fun _ => ap 1 (fun x0 h1 =>
 kBin .geq x0 (qb 21) fun x2 =>
 jc (α := JT) (fun x3 h4 =>
 jc (α := JT) (fun x6 h7 =>
 kPick x2 x6 qf fun x9 =>
 some (x9, h7)) fun j8 =>
 wtS x2 true (kBin .lss x3 (qb 24) fun x10 =>
 j8 x10 h4) (j8 u h4)) fun j5 =>
 wtS x2 true (j5 x0 h1) (j5 u h1))
theorem p124_ok (k : Nat) : p124 k = funcS k 1 lit124 := by kernel_rfl
def p130 (_ : Nat) : CtxK → List V → TH → R := fun _ => ap 1 (fun x0 h1 =>
 kNew (V.cellsR x0) h1 fun x2 h3 =>
 kFA 0 x2 fun x4 =>
 kL1 x4 h3 fun x5 =>
 kBin .lss x5 (qb 1) fun x6 =>
 jc (α := JT) (fun x7 h8 =>
 jc (α := JT) (fun x10 h11 =>
 jc (α := JT) (fun x13 h14 =>
 kPick x6 qt x13 fun x16 =>
 jc (α := JT) (fun x17 h18 =>
 jc (α := JT) (fun x20 h21 =>
 jc (α := JT) (fun x23 h24 =>
 kPick x16 qt x23 fun x26 =>
 jc (α := JT) (fun x27 h28 =>
 jc (α := JT) (fun x30 h31 =>
 jc (α := JT) (fun x33 h34 =>
 kPick x26 qt x33 fun x36 =>
 jc (α := JT) (fun x37 h38 =>
 jc (α := JT) (fun x40 h41 =>
 jc (α := JT) (fun x43 h44 =>
 jc (α := JT) (fun x46 h47 =>
 kPick x36 qt x46 fun x49 =>
 brS x49 (some (qf, h47)) (kFA 2 x2 fun x50 =>
 kL1 x50 h47 fun x51 =>
 kEqI false x51 (qb 1) fun x52 =>
 jc (α := Cur 58) (fun _ x54 _ _ _ _ _ _ _ _ _ _ _ _ _ _ _ _ _ _ _ _ _ _ _ _ _ _ x81 x82 _ _ _ _ _ _ _ _ _ _ _ _ _ _ _ _ _ _ _ _ _ _ _ _ _ _ _ _ h111 =>
 brS x82 (some (qt, h111)) (kEqI false x81 (qb 2) fun x113 =>
 brS x113 (kFA 5 x54 fun x114 =>
 kL1 x114 h111 fun x115 =>
 kEq' false (.leaf .str) x115 qs fun x116 =>
 some (x116, h111)) (kFA 2 x54 fun x117 =>
 kL1 x117 h111 fun x118 =>
 kEqI false x118 (qb 4) fun x119 =>
 jc (α := JT) (fun x120 h121 =>
 jc (α := JT) (fun x123 h124 =>
 jc (α := JT) (fun x126 h127 =>
 kPick x119 qt x126 fun x129 =>
 jc (α := JT) (fun x130 h131 =>
 jc (α := JT) (fun x133 h134 =>
 jc (α := JT) (fun x136 h137 =>
 jc (α := JT) (fun x139 h140 =>
 jc (α := JT) (fun x142 h143 =>
 jc (α := JT) (fun x145 h146 =>
 jc (α := JT) (fun x148 h149 =>
 jc (α := JT) (fun x151 h152 =>
 jc (α := JT) (fun x154 h155 =>
 jc (α := JT) (fun x157 h158 =>
 jc (α := JT) (fun x160 h161 =>
 kPick x129 x160 qf fun x163 =>
 some (x163, h161)) fun j162 =>
 wtS x129 true (kEq' false (.agg [.int, .int, .int, .int, .int, .str]) x130 x157 fun x164 =>
 j162 x164 h158) (j162 u h158)) fun j159 =>
 wtS x129 true (kB [(qb 0), (qw 0), (qb 0), (qb 0), (qb 0), qs] [(0, 1, x136), (1, 1, x142), (2, 1, x148), (3, 1, x154)] fun x165 =>
 j159 x165 h155) (j159 u h155)) fun j156 =>
 wtS x129 true (kL1 x151 h152 fun x166 =>
 j156 x166 h152) (j156 u h152)) fun j153 =>
 wtS x129 true (kFA 3 x54 fun x167 =>
 j153 x167 h149) (j153 u h149)) fun j150 =>
 wtS x129 true (kL1 x145 h146 fun x168 =>
 j150 x168 h146) (j150 u h146)) fun j147 =>
 wtS x129 true (kFA 2 x54 fun x169 =>
 j147 x169 h143) (j147 u h143)) fun j144 =>
 wtS x129 true (kL1 x139 h140 fun x170 =>
 j144 x170 h140) (j144 u h140)) fun j141 =>
 wtS x129 true (kFA 1 x54 fun x171 =>
 j141 x171 h137) (j141 u h137)) fun j138 =>
 wtS x129 true (kL1 x133 h134 fun x172 =>
 j138 x172 h134) (j138 u h134)) fun j135 =>
 wtS x129 true (kFA 0 x54 fun x173 =>
 j135 x173 h131) (j135 u h131)) fun j132 =>
 wtS x129 true (kLA 6 x54 h127 fun x174 =>
 j132 x174 h127) (j132 u h127)) fun j128 =>
 wtS x119 false (kEqI false x123 (qb 5) fun x175 =>
 j128 x175 h124) (j128 u h124)) fun j125 =>
 wtS x119 false (kL1 x120 h121 fun x176 =>
 j125 x176 h121) (j125 u h121)) fun j122 =>
 wtS x119 false (kFA 2 x54 fun x177 =>
 j122 x177 h111) (j122 u h111)))) fun j112 =>
 brS x52 (j112 u x2 u u u u u u u u u u u u u u u u u u u u u u u u u u x51 x52 u u u u u u u u u u u u u u u u u u u u u u u u u u u u h47) (kEqI false x51 (qb 3) fun x178 =>
 j112 u x2 u u u u u u u u u u u u u u u u u u u u u u u u u u x51 x178 u u u u u u u u u u u u u u u u u u u u u u u u u u u u h47))) fun j48 =>
 wtS x36 false (kBin .gtr x43 (qi 16) fun x179 =>
 j48 x179 h44) (j48 u h44)) fun j45 =>
 wtS x36 false (kP (lenV true x40) fun x180 =>
 j45 x180 h41) (j45 u h41)) fun j42 =>
 wtS x36 false (kL1 x37 h38 fun x181 =>
 j42 x181 h38) (j42 u h38)) fun j39 =>
 wtS x36 false (kFA 5 x2 fun x182 =>
 j39 x182 h34) (j39 u h34)) fun j35 =>
 wtS x26 false (kBin .geq x30 (qb 6) fun x183 =>
 j35 x183 h31) (j35 u h31)) fun j32 =>
 wtS x26 false (kL1 x27 h28 fun x184 =>
 j32 x184 h28) (j32 u h28)) fun j29 =>
 wtS x26 false (kFA 3 x2 fun x185 =>
 j29 x185 h24) (j29 u h24)) fun j25 =>
 wtS x16 false (kEqI false x20 (qw 0) fun x186 =>
 j25 x186 h21) (j25 u h21)) fun j22 =>
 wtS x16 false (kL1 x17 h18 fun x187 =>
 j22 x187 h18) (j22 u h18)) fun j19 =>
 wtS x16 false (kFA 1 x2 fun x188 =>
 j19 x188 h14) (j19 u h14)) fun j15 =>
 wtS x6 false (kBin .gtr x10 (qb 3) fun x189 =>
 j15 x189 h11) (j15 u h11)) fun j12 =>
 wtS x6 false (kL1 x7 h8 fun x190 =>
 j12 x190 h8) (j12 u h8)) fun j9 =>
 wtS x6 false (kFA 0 x2 fun x191 =>
 j9 x191 h3) (j9 u h3))
theorem p130_ok (k : Nat) : p130 k = funcS k 1 lit130 := by kernel_rfl
def p132 (_ : Nat) : CtxK → List V → TH → R := fun X => ap 2 (fun x0 x1 h2 =>
 kNew (V.cellsR x0) h2 fun x3 h4 =>
 kNew (V.cellsR x1) h4 fun x5 h6 =>
 kNew [(qb 0), qs] h6 fun x7 h8 =>
 kLA 6 x5 h8 fun x11 =>
 kCall X 91 [x11] h8 fun x12 h13 =>
 kNot x12 fun x14 =>
 jc (α := JT) (fun x15 h16 =>
 jc (α := V → TH → PD → R) (fun x20 h21 d22 =>
 jc (α := JT) (fun x24 h25 =>
 jc (α := JT) (fun x27 h28 =>
 jc (α := JT) (fun x30 h31 =>
 jc (α := JT) (fun x33 h34 =>
 jc (α := V → TH → PD → R) (fun x38 h39 d40 =>
 jc (α := JT) (fun x42 h43 =>
 jc (α := V → TH → PD → R) (fun x47 h48 d49 =>
 jc (α := JT) (fun x51 h52 =>
 kPick x14 qt x51 fun x54 =>
 dokS [h8, h52] d49 (brS x54 (kB [(qb 0), qs] [] fun x55 =>
 kSA 2 x7 x55 h52 fun _ h57 =>
 rsS [.cell 4 true 2, .tmp 5] [x0, x1, x3, x5, x7, qf, u, x11, x12, x14, x14, x15, x20, x24, x27, x30, x33, x38, x42, x47, x51, x54, x55, u, u, u, u, u, u, u, u, u, u, u, u, u, u] h57) (kFA 0 x5 fun x58 =>
 kL1 x58 h52 fun x59 =>
 kBin .sub x59 (qb 1) fun x60 =>
 kFA 30 x3 fun x61 =>
 kIA 3 3 x61 x60 fun x62 =>
 kLA 3 x62 h52 fun x63 =>
 kNew [(qw 0), (qb 0), qs] h52 fun x64 h65 =>
 kSA 3 x64 x63 h65 fun _ h67 =>
 kFA 0 x64 fun x68 =>
 kL1 x68 h67 fun x69 =>
 kFA 1 x5 fun x70 =>
 kL1 x70 h67 fun x71 =>
 kEqI false x69 x71 fun x72 =>
 brS x72 (kFA 1 x64 fun x73 =>
 kLA 2 x73 h67 fun x74 =>
 kSA 2 x7 x74 h67 fun _ h76 =>
 rsS [.cell 4 true 2, .tmp 5] [x0, x1, x3, x5, x7, qt, x64, x11, x12, x14, x14, x15, x20, x24, x27, x30, x33, x38, x42, x47, x51, x54, u, x58, x59, x60, x61, x62, x63, x68, x69, x70, x71, x72, x73, x74, u] h76) (kB [(qb 0), qs] [(0, 1, (qb 3))] fun x77 =>
 kSA 2 x7 x77 h67 fun _ h79 =>
 rsS [.cell 4 true 2, .tmp 5] [x0, x1, x3, x5, x7, qt, x64, x11, x12, x14, x14, x15, x20, x24, x27, x30, x33, x38, x42, x47, x51, x54, u, x58, x59, x60, x61, x62, x63, x68, x69, x70, x71, x72, u, u, x77] h79)))) fun j53 =>
 wtS x14 false (kBin .lss x38 x47 fun x80 =>
 j53 x80 h48) (j53 u h48)) fun j50 =>
 wtS x14 false (kL1 x42 h43 fun x81 =>
 j50 x81 h43 d40) (j50 u h43 d40)) fun j44 =>
 wtS x14 false (kFA 1 x5 fun x82 =>
 j44 x82 h39) (j44 u h39)) fun j41 =>
 wtS x14 false (kL1 x33 h34 fun x83 =>
 j41 x83 h34 d22) (j41 u h34 d22)) fun j35 =>
 wtS x14 false (kFA 0 x30 fun x84 =>
 j35 x84 h31) (j35 u h31)) fun j32 =>
 wtS x14 false (kIA 3 3 x27 x24 fun x85 =>
 j32 x85 h28) (j32 u h28)) fun j29 =>
 wtS x14 false (kFA 30 x3 fun x86 =>
 j29 x86 h25) (j29 u h25)) fun j26 =>
 wtS x14 false (kBin .sub x20 (qb 1) fun x87 =>
 j26 x87 h21) (j26 u h21)) fun j23 =>
 wtS x14 false (kL1 x15 h16 fun x88 =>
 j23 x88 h16 []) (j23 u h16 [])) fun j17 =>
 wtS x14 false (kFA 0 x5 fun x89 =>
 j17 x89 h13) (j17 u h13))
theorem p132_ok (k : Nat) : p132 k = funcS k 2 lit132 := by kernel_rfl
def p144 (_ : Nat) : CtxK → List V → TH → R := fun _ => ap 1 (fun x0 h1 =>
 kBin .geq x0 (qw 65536) fun x2 =>
 jc (α := Cur 19) (fun x3 _ x5 _ _ _ _ _ _ _ _ _ _ _ _ _ _ _ _ h22 =>
 kBin .geq x3 (qw 256) fun x24 =>
 jc (α := Cur 19) (fun x25 _ x27 _ _ _ _ _ _ _ _ _ _ _ _ _ _ _ _ h44 =>
 kConv .u8 x25 fun x46 =>
 kP (indexE none (.str (bs [0, 1, 2, 2, 3, 3, 3, 3, 4, 4, 4, 4, 4, 4, 4, 4, 5, 5, 5, 5, 5, 5, 5, 5, 5, 5, 5, 5, 5, 5, 5, 5, 6, 6, 6, 6, 6, 6, 6, 6, 6, 6, 6, 6, 6, 6, 6, 6, 6, 6, 6, 6, 6, 6, 6, 6, 6, 6, 6, 6, 6, 6, 6, 6, 7, 7, 7, 7, 7, 7, 7, 7, 7, 7, 7, 7, 7, 7, 7, 7, 7, 7, 7, 7, 7, 7, 7, 7, 7, 7, 7, 7, 7, 7, 7, 7, 7, 7, 7, 7, 7, 7, 7, 7, 7, 7, 7, 7, 7, 7, 7, 7, 7, 7, 7, 7, 7, 7, 7, 7, 7, 7, 7, 7, 7, 7, 7, 7, 8, 8, 8, 8, 8, 8, 8, 8, 8, 8, 8, 8, 8, 8, 8, 8, 8, 8, 8, 8, 8, 8, 8, 8, 8, 8, 8, 8, 8, 8, 8, 8, 8, 8, 8, 8, 8, 8, 8, 8, 8, 8, 8, 8, 8, 8, 8, 8, 8, 8, 8, 8, 8, 8, 8, 8, 8, 8, 8, 8, 8, 8, 8, 8, 8, 8, 8, 8, 8, 8, 8, 8, 8, 8, 8, 8, 8, 8, 8, 8, 8, 8, 8, 8, 8, 8, 8, 8, 8, 8, 8, 8, 8, 8, 8, 8, 8, 8, 8, 8, 8, 8, 8, 8, 8, 8, 8, 8, 8, 8, 8, 8, 8, 8, 8, 8, 8, 8, 8, 8, 8, 8, 8, 8, 8, 8, 8, 8])) x46) fun x47 =>
 kConv .i64 x47 fun x48 =>
 kBin .add x27 x48 fun x49 =>
 some (x49, h44)) fun j45 =>
 brS x24 (kBin .shr x3 (.int .u64 8) fun x50 =>
 kBin .add x5 (qi 8) fun x51 =>
 j45 x50 u x51 u u u u u u u u u u u u u u u u h22) (j45 x3 u x5 u u u u u u u u u u u u u u u u h22)) fun j23 =>
 brS x2 (kBin .shr x0 (.int .u64 16) fun x52 =>
 j23 x52 u (qi 16) u u u u u u u u u u u u u u u u h1) (j23 x0 u (qi 0) u u u u u u u u u u u u u u u u h1))
theorem p144_ok (k : Nat) : p144 k = funcS k 1 lit144 := by kernel_rfl
def p145 (_ : Nat) : CtxK → List V → TH → R := fun _ => ap 1 (fun x0 h1 =>
 kBin .geq x0 (.int .u64 4294967296) fun x2 =>
 jc (α := Cur 25) (fun x3 _ x5 _ _ _ _ _ _ _ _ _ _ _ _ _ _ _ _ _ _ _ _ _ _ h28 =>
 kBin .geq x3 (.int .u64 65536) fun x30 =>
 jc (α := Cur 25) (fun x31 _ x33 _ _ _ _ _ _ _ _ _ _ _ _ _ _ _ _ _ _ _ _ _ _ h56 =>
 kBin .geq x31 (.int .u64 256) fun x58 =>
 jc (α := Cur 25) (fun x59 _ x61 _ _ _ _ _ _ _ _ _ _ _ _ _ _ _ _ _ _ _ _ _ _ h84 =>
 kConv .u8 x59 fun x86 =>
 kP (indexE none (.str (bs [0, 1, 2, 2, 3, 3, 3, 3, 4, 4, 4, 4, 4, 4, 4, 4, 5, 5, 5, 5, 5, 5, 5, 5, 5, 5, 5, 5, 5, 5, 5, 5, 6, 6, 6, 6, 6, 6, 6, 6, 6, 6, 6, 6, 6, 6, 6, 6, 6, 6, 6, 6, 6, 6, 6, 6, 6, 6, 6, 6, 6, 6, 6, 6, 7, 7, 7, 7, 7, 7, 7, 7, 7, 7, 7, 7, 7, 7, 7, 7, 7, 7, 7, 7, 7, 7, 7, 7, 7, 7, 7, 7, 7, 7, 7, 7, 7, 7, 7, 7, 7, 7, 7, 7, 7, 7, 7, 7, 7, 7, 7, 7, 7, 7, 7, 7, 7, 7, 7, 7, 7, 7, 7, 7, 7, 7, 7, 7, 8, 8, 8, 8, 8, 8, 8, 8, 8, 8, 8, 8, 8, 8, 8, 8, 8, 8, 8, 8, 8, 8, 8, 8, 8, 8, 8, 8, 8, 8, 8, 8, 8, 8, 8, 8, 8, 8, 8, 8, 8, 8, 8, 8, 8, 8, 8, 8, 8, 8, 8, 8, 8, 8, 8, 8, 8, 8, 8, 8, 8, 8, 8, 8, 8, 8, 8, 8, 8, 8, 8, 8, 8, 8, 8, 8, 8, 8, 8, 8, 8, 8, 8, 8, 8, 8, 8, 8, 8, 8, 8, 8, 8, 8, 8, 8, 8, 8, 8, 8, 8, 8, 8, 8, 8, 8, 8, 8, 8, 8, 8, 8, 8, 8, 8, 8, 8, 8, 8, 8, 8, 8, 8, 8, 8, 8, 8, 8])) x86) fun x87 =>
 kConv .i64 x87 fun x88 =>
 kBin .add x61 x88 fun x89 =>
 some (x89, h84)) fun j85 =>
 brS x58 (kBin .shr x31 (.int .u64 8) fun x90 =>
 kBin .add x33 (qi 8) fun x91 =>
 j85 x90 u x91 u u u u u u u u u u u u u u u u u u u u u u h56) (j85 x31 u x33 u u u u u u u u u u u u u u u u u u u u u u h56)) fun j57 =>
 brS x30 (kBin .shr x3 (.int .u64 16) fun x92 =>
 kBin .add x5 (qi 16) fun x93 =>
 j57 x92 u x93 u u u u u u u u u u u u u u u u u u u u u u h28) (j57 x3 u x5 u u u u u u u u u u u u u u u u u u u u u u h28)) fun j29 =>
 brS x2 (kBin .shr x0 (.int .u64 32) fun x94 =>
 j29 x94 u (qi 32) u u u u u u u u u u u u u u u u u u u u u u h1) (j29 x0 u (qi 0) u u u u u u u u u u u u u u u u u u u u u u h1))
theorem p145_ok (k : Nat) : p145 k = funcS k 1 lit145 := by kernel_rfl
def p147 (_ : Nat) : CtxK → List V → TH → R := fun X => ap 1 (fun x0 h1 =>
 kNew (V.cellsR x0) h1 fun x2 h3 =>
 kLA 16 x2 h3 fun x4 =>
 kCall X 101 [x4, (.fn 178 [] [])] h3 fun x5 h6 =>
 some (x5, h6))
theorem p147_ok (k : Nat) : p147 k = funcS k 1 lit147 := by kernel_rfl
def p154 (k : Nat) : CtxK → List V → TH → R := fun X => ap 2 (fun x0 x1 h2 =>
 kLen x0 fun x3 =>
 lp (α := Cur 19) (zN 19) (fun n24 x4 x5 _ _ _ _ _ x11 x12 _ _ _ _ _ _ _ _ _ _ h23 =>
 kBin .lss x12 x11 fun x25 =>
 brS x25 (kIS 49 x4 x12 fun x26 =>
 kLA 49 x26 h23 fun x27 =>
 kCv X x5 [x27] h23 fun x28 h29 =>
 brS x28 (some (x12, h29)) (kBin .add x12 (qi 1) fun x30 =>
 n24 x4 x5 u u u u u x11 x30 u u u u u u u u u u h29)) (some ((.int .i64 (-1)), h23))) k x0 x1 u u u u u x3 (qi 0) u u u u u u u u u u h2)
theorem p154_ok (k : Nat) : p154 k = funcS k 2 lit154 := by kernel_rfl
def p178 (_ : Nat) : CtxK → List V → TH → R := fun _ => ap 1 (fun x0 h1 =>
 kNew (V.cellsR x0) h1 fun x2 h3 =>
 kFA 1 x2 fun x4 =>
 kL1 x4 h3 fun x5 =>
 kBin .gtr x5 (qi 0) fun x6 =>
 some (x6, h3))
theorem p178_ok (k : Nat) : p178 k = funcS k 1 lit178 := by kernel_rfl
def p179 (k : Nat) : CtxK → List V → TH → R := fun X => ap 2 (fun x0 x1 h2 =>
 kNilc x0 fun x3 =>
 kFA 17 x3 fun x4 =>
 kL1 x4 h2 fun x5 =>
 kLen x5 fun x6 =>
 lp (α := Cur 44) (zN 44) (fun n52 x7 x8 _ _ _ x12 _ _ _ _ _ x18 x19 x20 _ _ _ _ _ _ _ _ _ _ _ _ _ _ _ _ _ _ _ _ _ _ _ _ _ _ _ _ _ _ h51 =>
 kBin .lss x20 x19 fun x53 =>
 brS x53 (kIS 1 x18 x20 fun x54 =>
 kL1 x54 h51 fun x55 =>
 kNilc x7 fun x56 =>
 kFA 16 x56 fun x57 =>
 kL1 x57 h51 fun x60 =>
 kNilc x7 fun x61 =>
 kFA 0 x61 fun x62 =>
 kFA 1 x62 fun x63 =>
 kIA 5 3 x63 x55 fun x64 =>
 kFA 1 x64 fun x65 =>
 kL1 x65 h51 fun x68 =>
 kCall X 193 [x60, x55, x8, x68] h51 fun x69 h70 =>
 kBS 1 [(qi 0)] 1 [(0, 1, x69)] h70 fun x71 h72 =>
 kAp 1 8 x12 x71 h72 fun x73 h74 =>
 dokS [h51, h72, h74] [] (kBin .add x20 (qi 1) fun x75 =>
 n52 x7 x8 u u u x73 u u u u u x18 x19 x75 u u u u u u u u u u u u u u u u u u u u u u u u u u u u u u h74)) (kNilc x7 fun x76 =>
 kFA 17 x76 fun x77 =>
 kL1 x77 h51 fun x80 =>
 kCall X 194 [x12] h51 fun x81 h82 =>
 kIS 1 x80 x81 fun x83 =>
 kL1 x83 h82 fun x86 =>
 dokS [h51, h82] ((fun h78 => kL1 x77 h78 fun x79 =>
 some (x79, h78), x80, 0, 1) :: []) (some (x86, h82)))) k x0 x1 u u u .nils u u u u u x5 x6 (qi 0) u u u u u u u u u u u u u u u u u u u u u u u u u u u u u u h2)
theorem p179_ok (k : Nat) : p179 k = funcS k 2 lit179 := by kernel_rfl
def p191 (_ : Nat) : CtxK → List V → TH → R := fun X => ap 2 (fun x0 x1 h2 =>
 kP (lenV true x0) fun x3 =>
 kBin .sub x1 x3 fun x4 =>
 kP (minE true x4 (qi 0)) fun x5 =>
 kCall X 197 [(.str (bs [0])), x5] h2 fun x6 h7 =>
 kBin .add x0 x6 fun x8 =>
 some (x8, h7))
theorem p191_ok (k : Nat) : p191 k = funcS k 2 lit191 := by kernel_rfl
end
end Go.PE
