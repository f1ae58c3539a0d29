/- The same functions with names for their slots (part 3 of 4), printed by a program of our own: each is what the evaluator's law says of the literal. -/
import Derived.Test.YtcgjkbnijnefjaaGreatDoorMvL3
import Derived.KernelRfl
namespace Go.PE
set_option maxRecDepth 100000
noncomputable section
def p10 (k : Nat) : CtxK → List V → TH → R := fun X => ap 2 (fun x0 x1 h2 =>
 kNew (V.cellsR x1) h2 fun x3 h4 =>
 kCall X 29 [] h4 fun x5 h6 =>
 kBin .rem x0 (qb 4) fun x7 =>
 kB [.nilptr, (qb 0), .nilptr, .nilptr, .nilptr, .nilptr, .nilptr, .nils, .nils] [(0, 1, x5), (1, 1, x7)] fun x8 =>
 kNew (V.cellsR x8) h6 fun x9 h10 =>
 lp (α := Cur 50) (zN 50) (fun n62 _ _ _ x14 _ x16 x17 _ _ _ _ _ _ _ _ _ _ _ _ _ _ _ _ _ _ _ _ _ _ _ _ _ _ _ _ _ _ _ _ _ _ _ _ _ _ _ _ _ _ _ h61 =>
 kBin .lss x17 (qi 5) fun x63 =>
 brS x63 (kNilc x16 fun x64 =>
 kFA 1 x64 fun x65 =>
 kL1 x65 h61 fun x68 =>
 kIA 5 49 x14 x17 fun x69 =>
 kLA 49 x69 h61 fun x72 =>
 kNilc x16 fun x73 =>
 kFA 2 x73 fun x74 =>
 kCall X 24 [x17, x68, x72] h61 fun x75 h76 =>
 kIA 5 1 x74 x17 fun x77 =>
 kS1 x77 x75 h76 fun _ h79 =>
 dokS [h61, h76, h79] [] (kNilc x16 fun x80 =>
 kFA 7 x80 fun x81 =>
 kL1 x81 h79 fun x84 =>
 kNilc x16 fun x85 =>
 kFA 2 x85 fun x86 =>
 kIA 5 1 x86 x17 fun x87 =>
 kL1 x87 h79 fun x90 =>
 kNilc x16 fun x91 =>
 kFA 0 x91 fun x92 =>
 kL1 x92 h79 fun x95 =>
 kCall X 25 [x90, x95] h79 fun x96 h97 =>
 kAp 131 1400 x84 x96 h97 fun x98 h99 =>
 kNilc x16 fun x100 =>
 kFA 7 x100 fun x101 =>
 kS1 x101 x98 h99 fun _ h103 =>
 dokS [h79, h97, h99, h103] ((fun h82 => kL1 x81 h82 fun x83 =>
 some (x83, h82), x84, 0, 1) :: []) (kBin .add x17 (qi 1) fun x104 =>
 n62 u u u x14 u x16 x104 u u u u u u u u u u u u u u u u u u u u u u u u u u u u u u u u u u u u u u u u u u u h103))) (some (x16, h61))) k u u u x3 u x9 (qi 0) u u u u u u u u u u u u u u u u u u u u u u u u u u u u u u u u u u u u u u u u u u u h10)
theorem p10_ok (k : Nat) : p10 k = funcS k 2 lit10 := by kernel_rfl
def p12 (_ : Nat) : CtxK → List V → TH → R := fun X => ap 2 (fun x0 x1 h2 =>
 kCall X 35 [x0, x1] h2 fun x3 h4 =>
 kP (fieldE false 1 1 x3) fun x5 =>
 kCall X 34 [x5] h4 fun x6 h7 =>
 some (x6, h7))
theorem p12_ok (k : Nat) : p12 k = funcS k 2 lit12 := by kernel_rfl
def p15 (_ : Nat) : CtxK → List V → TH → R := fun X => ap 2 (fun x0 x1 h2 =>
 kNew (V.cellsR x0) h2 fun x3 h4 =>
 kNew (V.cellsR x1) h4 fun x5 h6 =>
 kFA 0 x3 fun x7 =>
 kL1 x7 h6 fun x8 =>
 kFA 0 x5 fun x9 =>
 kL1 x9 h6 fun x10 =>
 kEqI false x8 x10 fun x11 =>
 jc (α := JT) (fun x12 h13 =>
 jc (α := JT) (fun x15 h16 =>
 jc (α := JT) (fun x18 h19 =>
 jc (α := JT) (fun x21 h22 =>
 jc (α := JT) (fun x24 h25 =>
 kPick x11 x24 qf fun x27 =>
 jc (α := JT) (fun x28 h29 =>
 jc (α := JT) (fun x31 h32 =>
 jc (α := JT) (fun x34 h35 =>
 jc (α := JT) (fun x37 h38 =>
 jc (α := JT) (fun x40 h41 =>
 kPick x27 x40 qf fun x43 =>
 jc (α := JT) (fun x44 h45 =>
 jc (α := JT) (fun x47 h48 =>
 jc (α := JT) (fun x50 h51 =>
 jc (α := JT) (fun x53 h54 =>
 jc (α := JT) (fun x56 h57 =>
 kPick x43 x56 qf fun x59 =>
 some (x59, h57)) fun j58 =>
 wtS x43 true (kCall X 40 [x47, x53] h54 fun x60 h61 =>
 j58 x60 h61) (j58 u h54)) fun j55 =>
 wtS x43 true (kL1 x50 h51 fun x62 =>
 j55 x62 h51) (j55 u h51)) fun j52 =>
 wtS x43 true (kFA 48 x5 fun x63 =>
 j52 x63 h48) (j52 u h48)) fun j49 =>
 wtS x43 true (kL1 x44 h45 fun x64 =>
 j49 x64 h45) (j49 u h45)) fun j46 =>
 wtS x43 true (kFA 48 x3 fun x65 =>
 j46 x65 h41) (j46 u h41)) fun j42 =>
 wtS x27 true (kEq' false (.agg [.int, .int, .int, .int, .int, .int, .int, .str]) x31 x37 fun x66 =>
 j42 x66 h38) (j42 u h38)) fun j39 =>
 wtS x27 true (kLA 8 x34 h35 fun x67 =>
 j39 x67 h35) (j39 u h35)) fun j36 =>
 wtS x27 true (kFA 40 x5 fun x68 =>
 j36 x68 h32) (j36 u h32)) fun j33 =>
 wtS x27 true (kLA 8 x28 h29 fun x69 =>
 j33 x69 h29) (j33 u h29)) fun j30 =>
 wtS x27 true (kFA 40 x3 fun x70 =>
 j30 x70 h25) (j30 u h25)) fun j26 =>
 wtS x11 true (kEq' false (.agg [.bool, .str, .str, .str, .str, .bool, .str, .str, .str, .str, .bool, .str, .str, .str, .str, .bool, .str, .str, .str, .str, .bool, .str, .str, .str, .str, .bool, .str, .str, .str, .str, .int, .int, .str, .int, .int, .str, .int, .int, .str]) x15 x21 fun x71 =>
 j26 x71 h22) (j26 u h22)) fun j23 =>
 wtS x11 true (kLA 39 x18 h19 fun x72 =>
 j23 x72 h19) (j23 u h19)) fun j20 =>
 wtS x11 true (kFA 1 x5 fun x73 =>
 j20 x73 h16) (j20 u h16)) fun j17 =>
 wtS x11 true (kLA 39 x12 h13 fun x74 =>
 j17 x74 h13) (j17 u h13)) fun j14 =>
 wtS x11 true (kFA 1 x3 fun x75 =>
 j14 x75 h6) (j14 u h6))
theorem p15_ok (k : Nat) : p15 k = funcS k 2 lit15 := by kernel_rfl
def p17 (_ : Nat) : CtxK → List V → TH → R := fun X => ap 3 (fun x0 x1 x2 h3 =>
 kNew [(qb 0), (qw 0), (qb 0), (qb 0), (qb 0), qs] h3 fun x4 h5 =>
 kCall X 16 [x0] h5 fun x6 h7 =>
 kB [(qb 0), (qw 0), (qb 0), (qb 0), (qb 0), qs] [(0, 1, (qb 1)), (1, 1, x1), (2, 1, (qb 1)), (3, 1, x6), (5, 1, x2)] fun x8 =>
 kSA 6 x4 x8 h7 fun _ h10 =>
 rsS [.cell 6 true 6] [x0, x1, x2, u, u, u, x4, x1, x0, x6, x2, x8] h10)
theorem p17_ok (k : Nat) : p17 k = funcS k 3 lit17 := by kernel_rfl
def p28 (k : Nat) : CtxK → List V → TH → R := fun X => ap 2 (fun x0 x1 h2 =>
 kNilc x0 fun x3 =>
 kFA 0 x3 fun x4 =>
 kL1 x4 h2 fun x7 =>
 kNilc x0 fun x8 =>
 kFA 1 x8 fun x9 =>
 kL1 x9 h2 fun x12 =>
 kCall X 12 [x7, x12] h2 fun x13 h14 =>
 dokS [h2, h14] [] (kIS 1 x13 (qi 0) fun x15 =>
 kL1 x15 h14 fun x18 =>
 kNilc x0 fun x19 =>
 kFA 2 x19 fun x20 =>
 kIA 5 1 x20 x18 fun x21 =>
 kL1 x21 h14 fun x24 =>
 kNew zr0 h14 fun x25 h26 =>
 kCall X 13 [x24] h26 fun x27 h28 =>
 kSA 49 x25 x27 h28 fun _ h30 =>
 dokS [h26, h28, h30] [] (lp (α := Cur 91) (zN 91) (fun n123 x31 x32 _ _ _ x36 x37 x38 _ _ _ _ _ _ _ _ _ _ _ _ _ _ _ _ _ _ _ _ _ _ _ _ _ _ _ _ _ _ _ _ _ _ _ _ _ _ _ _ _ _ _ _ _ _ _ _ _ _ _ _ _ _ _ _ _ _ _ _ _ _ _ _ _ _ _ _ _ _ _ _ _ _ _ _ _ _ _ _ _ _ _ h122 =>
 kLen x36 fun x124 =>
 kBin .lss x38 x124 fun x125 =>
 brS x125 (kIS 1 x36 x38 fun x126 =>
 kL1 x126 h122 fun x129 =>
 kNilc x31 fun x130 =>
 kFA 2 x130 fun x131 =>
 kIA 5 1 x131 x129 fun x132 =>
 kL1 x132 h122 fun x135 =>
 kLA 49 x37 h122 fun x138 =>
 kCall X 13 [x135] h122 fun x139 h140 =>
 kCall X 15 [x139, x138] h140 fun x141 h142 =>
 kNot x141 fun x143 =>
 dokS [h122, h140, h142] ((fun h136 => kLA 49 x37 h136 fun x137 =>
 some (x137, h136), x138, 0, 1) :: []) (brS x143 (some (qf, h142)) (kBin .add x38 (qi 1) fun x144 =>
 n123 x31 x32 u u u x36 x37 x144 u u u u u u u u u u u u u u u u u u u u u u u u u u u u u u u u u u u u u u u u u u u u u u u u u u u u u u u u u u u u u u u u u u u u u u u u u u u u u u u u u u u h142))) (kLA 49 x37 h122 fun x145 =>
 kCall X 22 [x145] h122 fun x146 h147 =>
 kExt x146 0 fun _ =>
 kExt x146 1 fun x149 =>
 kNilc x31 fun x150 =>
 kFA 8 x150 fun x151 =>
 kL1 x151 h147 fun x154 =>
 kLen x154 fun x155 =>
 kEqI false x155 x32 fun x156 =>
 jc (α := JT) (fun x157 h158 =>
 jc (α := JT) (fun x160 h161 =>
 jc (α := JT) (fun x163 h164 =>
 jc (α := JT) (fun x166 h167 =>
 kPick x156 x166 qf fun x169 =>
 jc (α := JT) (fun x170 h171 =>
 jc (α := JT) (fun x173 h174 =>
 jc (α := JT) (fun x176 h177 =>
 jc (α := V → TH → PD → R) (fun x181 h182 d183 =>
 jc (α := JT) (fun x185 h186 =>
 jc (α := JT) (fun x188 h189 =>
 jc (α := JT) (fun x191 h192 =>
 jc (α := V → TH → PD → R) (fun x196 h197 d198 =>
 jc (α := JT) (fun x200 h201 =>
 jc (α := JT) (fun x203 h204 =>
 kPick x169 x203 qf fun x206 =>
 jc (α := JT) (fun x207 h208 =>
 jc (α := V → TH → PD → R) (fun x212 h213 d214 =>
 jc (α := JT) (fun x216 h217 =>
 jc (α := JT) (fun x219 h220 =>
 jc (α := JT) (fun x222 h223 =>
 jc (α := V → TH → PD → R) (fun x227 h228 d229 =>
 jc (α := JT) (fun x231 h232 =>
 jc (α := JT) (fun x234 h235 =>
 jc (α := JT) (fun x237 h238 =>
 jc (α := V → TH → PD → R) (fun x242 h243 d244 =>
 jc (α := JT) (fun x246 h247 =>
 jc (α := JT) (fun x249 h250 =>
 kPick x206 x249 qf fun x252 =>
 dokS [h197, h243, h250] d244 (some (x252, h250))) fun j251 =>
 wtS x206 true (kEqI false x212 x246 fun x253 =>
 j251 x253 h247) (j251 u h247)) fun j248 =>
 wtS x206 true (kCall X 53 [x227, x242] h243 fun x254 h255 =>
 j248 x254 h255) (j248 u h243)) fun j245 =>
 wtS x206 true (kL1 x237 h238 fun x256 =>
 j245 x256 h238 d229) (j245 u h238 d229)) fun j239 =>
 wtS x206 true (kFA 1 x234 fun x257 =>
 j239 x257 h235) (j239 u h235)) fun j236 =>
 wtS x206 true (kNilc x231 fun x258 =>
 j236 x258 h232) (j236 u h232)) fun j233 =>
 wtS x206 true (j233 x31 h228) (j233 u h228)) fun j230 =>
 wtS x206 true (kL1 x222 h223 fun x259 =>
 j230 x259 h223 d214) (j230 u h223 d214)) fun j224 =>
 wtS x206 true (kFA 0 x219 fun x260 =>
 j224 x260 h220) (j224 u h220)) fun j221 =>
 wtS x206 true (kNilc x216 fun x261 =>
 j221 x261 h217) (j221 u h217)) fun j218 =>
 wtS x206 true (j218 x31 h213) (j218 u h213)) fun j215 =>
 wtS x206 true (kL1 x207 h208 fun x262 =>
 j215 x262 h208 ((fun h210 => kL1 x207 h210 fun x211 =>
 some (x211, h210), x262, 1, 2) :: d198)) (j215 u h208 d198)) fun j209 =>
 wtS x206 true (kFA 0 x37 fun x263 =>
 j209 x263 h204) (j209 u h204)) fun j205 =>
 wtS x169 true (kEqI false x200 (qi 4) fun x264 =>
 j205 x264 h201) (j205 u h201)) fun j202 =>
 wtS x169 true (kCall X 26 [x196] h197 fun x265 h266 =>
 j202 x265 h266) (j202 u h197)) fun j199 =>
 wtS x169 true (kL1 x191 h192 fun x267 =>
 j199 x267 h192 d183) (j199 u h192 d183)) fun j193 =>
 wtS x169 true (kIA 5 1 x188 x181 fun x268 =>
 j193 x268 h189) (j193 u h189)) fun j190 =>
 wtS x169 true (kFA 2 x185 fun x269 =>
 j190 x269 h186) (j190 u h186)) fun j187 =>
 wtS x169 true (kNilc x170 fun x270 =>
 j187 x270 h182) (j187 u h182)) fun j184 =>
 wtS x169 true (kL1 x176 h177 fun x271 =>
 j184 x271 h177 []) (j184 u h177 [])) fun j178 =>
 wtS x169 true (kIS 1 x173 (qi 0) fun x272 =>
 j178 x272 h174) (j178 u h174)) fun j175 =>
 wtS x169 true (j175 x36 h171) (j175 u h171)) fun j172 =>
 wtS x169 true (j172 x31 h167) (j172 u h167)) fun j168 =>
 wtS x156 true (kEqI false x160 x163 fun x273 =>
 j168 x273 h164) (j168 u h164)) fun j165 =>
 wtS x156 true (j165 x32 h161) (j165 u h161)) fun j162 =>
 wtS x156 true (kConv .i64 x157 fun x274 =>
 j162 x274 h158) (j162 u h158)) fun j159 =>
 wtS x156 true (j159 x149 h147) (j159 u h147))) k x0 x1 u u u x13 x25 (qi 0) u u u u u u u u u u u u u u u u u u u u u u u u u u u u u u u u u u u u u u u u u u u u u u u u u u u u u u u u u u u u u u u u u u u u u u u u u u u u u u u u u u u h30)))
theorem p28_ok (k : Nat) : p28 k = funcS k 2 lit28 := by kernel_rfl
def p29 (_ : Nat) : CtxK → List V → TH → R := fun X => ap 0 (fun  h0 =>
 kMM h0 fun x1 h2 =>
 kMM h2 fun x3 h4 =>
 kB [.nilmap, .nilmap, (qw 0), .nils, .nils, .nils, .nils] [(0, 1, x1), (1, 1, x3)] fun x5 =>
 kNew (V.cellsR x5) h4 fun x6 h7 =>
 kCall X 60 [] h7 fun x8 h9 =>
 kCall X 59 [x6, x8] h9 fun _ h11 =>
 some (x6, h11))
theorem p29_ok (k : Nat) : p29 k = funcS k 0 lit29 := by kernel_rfl
def p33 (_ : Nat) : CtxK → List V → TH → R := fun _ => ap 1 (fun x0 h1 =>
 kNew (V.cellsR x0) h1 fun x2 h3 =>
 kFA 0 x2 fun x4 =>
 kL1 x4 h3 fun x5 =>
 kBin .lss x5 (qb 1) fun x6 =>
 jc (α := JT) (fun x7 h8 =>
 jc (α := JT) (fun x10 h11 =>
 jc (α := JT) (fun x13 h14 =>
 kPick x6 qt x13 fun x16 =>
 jc (α := JT) (fun x17 h18 =>
 jc (α := JT) (fun x20 h21 =>
 jc (α := JT) (fun x23 h24 =>
 kPick x16 qt x23 fun x26 =>
 jc (α := JT) (fun x27 h28 =>
 jc (α := JT) (fun x30 h31 =>
 jc (α := JT) (fun x33 h34 =>
 kPick x26 qt x33 fun x36 =>
 jc (α := JT) (fun x37 h38 =>
 jc (α := JT) (fun x40 h41 =>
 jc (α := JT) (fun x43 h44 =>
 jc (α := JT) (fun x46 h47 =>
 kPick x36 qt x46 fun x49 =>
 brS x49 (some (qf, h47)) (kFA 2 x2 fun x50 =>
 kL1 x50 h47 fun x51 =>
 kEqI false x51 (qb 1) fun x52 =>
 jc (α := Cur 58) (fun _ x54 _ _ _ _ _ _ _ _ _ _ _ _ _ _ _ _ _ _ _ _ _ _ _ _ _ _ x81 x82 _ _ _ _ _ _ _ _ _ _ _ _ _ _ _ _ _ _ _ _ _ _ _ _ _ _ _ _ h111 =>
 brS x82 (some (qt, h111)) (kEqI false x81 (qb 2) fun x113 =>
 brS x113 (kFA 5 x54 fun x114 =>
 kL1 x114 h111 fun x115 =>
 kEq' false (.leaf .str) x115 qs fun x116 =>
 some (x116, h111)) (kFA 2 x54 fun x117 =>
 kL1 x117 h111 fun x118 =>
 kEqI false x118 (qb 4) fun x119 =>
 jc (α := JT) (fun x120 h121 =>
 jc (α := JT) (fun x123 h124 =>
 jc (α := JT) (fun x126 h127 =>
 kPick x119 qt x126 fun x129 =>
 jc (α := JT) (fun x130 h131 =>
 jc (α := JT) (fun x133 h134 =>
 jc (α := JT) (fun x136 h137 =>
 jc (α := JT) (fun x139 h140 =>
 jc (α := JT) (fun x142 h143 =>
 jc (α := JT) (fun x145 h146 =>
 jc (α := JT) (fun x148 h149 =>
 jc (α := JT) (fun x151 h152 =>
 jc (α := JT) (fun x154 h155 =>
 jc (α := JT) (fun x157 h158 =>
 jc (α := JT) (fun x160 h161 =>
 kPick x129 x160 qf fun x163 =>
 some (x163, h161)) fun j162 =>
 wtS x129 true (kEq' false (.agg [.int, .int, .int, .int, .int, .str]) x130 x157 fun x164 =>
 j162 x164 h158) (j162 u h158)) fun j159 =>
 wtS x129 true (kB [(qb 0), (qw 0), (qb 0), (qb 0), (qb 0), qs] [(0, 1, x136), (1, 1, x142), (2, 1, x148), (3, 1, x154)] fun x165 =>
 j159 x165 h155) (j159 u h155)) fun j156 =>
 wtS x129 true (kL1 x151 h152 fun x166 =>
 j156 x166 h152) (j156 u h152)) fun j153 =>
 wtS x129 true (kFA 3 x54 fun x167 =>
 j153 x167 h149) (j153 u h149)) fun j150 =>
 wtS x129 true (kL1 x145 h146 fun x168 =>
 j150 x168 h146) (j150 u h146)) fun j147 =>
 wtS x129 true (kFA 2 x54 fun x169 =>
 j147 x169 h143) (j147 u h143)) fun j144 =>
 wtS x129 true (kL1 x139 h140 fun x170 =>
 j144 x170 h140) (j144 u h140)) fun j141 =>
 wtS x129 true (kFA 1 x54 fun x171 =>
 j141 x171 h137) (j141 u h137)) fun j138 =>
 wtS x129 true (kL1 x133 h134 fun x172 =>
 j138 x172 h134) (j138 u h134)) fun j135 =>
 wtS x129 true (kFA 0 x54 fun x173 =>
 j135 x173 h131) (j135 u h131)) fun j132 =>
 wtS x129 true (kLA 6 x54 h127 fun x174 =>
 j132 x174 h127) (j132 u h127)) fun j128 =>
 wtS x119 false (kEqI false x123 (qb 5) fun x175 =>
 j128 x175 h124) (j128 u h124)) fun j125 =>
 wtS x119 false (kL1 x120 h121 fun x176 =>
 j125 x176 h121) (j125 u h121)) fun j122 =>
 wtS x119 false (kFA 2 x54 fun x177 =>
 j122 x177 h111) (j122 u h111)))) fun j112 =>
 brS x52 (j112 u x2 u u u u u u u u u u u u u u u u u u u u u u u u u u x51 x52 u u u u u u u u u u u u u u u u u u u u u u u u u u u u h47) (kEqI false x51 (qb 3) fun x178 =>
 j112 u x2 u u u u u u u u u u u u u u u u u u u u u u u u u u x51 x178 u u u u u u u u u u u u u u u u u u u u u u u u u u u u h47))) fun j48 =>
 wtS x36 false (kBin .gtr x43 (qi 16) fun x179 =>
 j48 x179 h44) (j48 u h44)) fun j45 =>
 wtS x36 false (kP (lenV true x40) fun x180 =>
 j45 x180 h41) (j45 u h41)) fun j42 =>
 wtS x36 false (kL1 x37 h38 fun x181 =>
 j42 x181 h38) (j42 u h38)) fun j39 =>
 wtS x36 false (kFA 5 x2 fun x182 =>
 j39 x182 h34) (j39 u h34)) fun j35 =>
 wtS x26 false (kBin .geq x30 (qb 6) fun x183 =>
 j35 x183 h31) (j35 u h31)) fun j32 =>
 wtS x26 false (kL1 x27 h28 fun x184 =>
 j32 x184 h28) (j32 u h28)) fun j29 =>
 wtS x26 false (kFA 3 x2 fun x185 =>
 j29 x185 h24) (j29 u h24)) fun j25 =>
 wtS x16 false (kEqI false x20 (qw 0) fun x186 =>
 j25 x186 h21) (j25 u h21)) fun j22 =>
 wtS x16 false (kL1 x17 h18 fun x187 =>
 j22 x187 h18) (j22 u h18)) fun j19 =>
 wtS x16 false (kFA 1 x2 fun x188 =>
 j19 x188 h14) (j19 u h14)) fun j15 =>
 wtS x6 false (kBin .gtr x10 (qb 3) fun x189 =>
 j15 x189 h11) (j15 u h11)) fun j12 =>
 wtS x6 false (kL1 x7 h8 fun x190 =>
 j12 x190 h8) (j12 u h8)) fun j9 =>
 wtS x6 false (kFA 0 x2 fun x191 =>
 j9 x191 h3) (j9 u h3))
theorem p33_ok (k : Nat) : p33 k = funcS k 1 lit33 := by kernel_rfl
def p34 (_ : Nat) : CtxK → List V → TH → R := fun _ => ap 1 (fun x0 h1 =>
 kEq' false (.nilR .sl) x0 .nils fun x2 =>
 brS x2 (some (.nils, h1)) (kBS 1 [(qi 0)] 0 [] h1 fun x3 h4 =>
 kAp 1 8 x3 x0 h4 fun x5 h6 =>
 some (x5, h6)))
theorem p34_ok (k : Nat) : p34 k = funcS k 1 lit34 := by kernel_rfl
def p39 (_ : Nat) : CtxK → List V → TH → R := fun X => ap 1 (fun x0 h1 =>
 kConv .u64 x0 fun x2 =>
 kCall X 82 [x2] h1 fun x3 h4 =>
 kBin .rem x3 (.int .u64 4) fun x5 =>
 kConv .u8 x5 fun x6 =>
 some (x6, h4))
theorem p39_ok (k : Nat) : p39 k = funcS k 1 lit39 := by kernel_rfl
def p41 (k : Nat) : CtxK → List V → TH → R := fun X => ap 3 (fun x0 x1 x2 h3 =>
 kCall X 84 [x1] h3 fun x4 h5 =>
 kCall X 83 [x4] h5 fun x6 h7 =>
 kLen x6 fun x8 =>
 lp (α := Cur 32) (zN 32) (fun n42 x9 _ x11 _ _ _ _ x16 _ _ _ _ x21 x22 x23 _ _ _ _ _ _ _ _ _ _ _ _ _ _ _ _ _ h41 =>
 kBin .lss x23 x22 fun x43 =>
 brS x43 (kIS 1 x21 x23 fun x44 =>
 kL1 x44 h41 fun x45 =>
 kNilc x9 fun x46 =>
 kFA 0 x46 fun x47 =>
 kL1 x47 h41 fun x48 =>
 kEqI true x45 x48 fun x49 =>
 jc (α := Cur 32) (fun x50 _ x52 _ _ _ _ x57 _ _ _ _ x62 x63 x64 _ _ _ _ _ _ _ _ _ _ _ _ _ _ _ _ _ h82 =>
 kBin .add x64 (qi 1) fun x84 =>
 n42 x50 u x52 u u u u x57 u u u u x62 x63 x84 u u u u u u u u u u u u u u u u u h82) fun j83 =>
 brS x49 (kCv X x11 [x45] h41 fun x85 h86 =>
 kBS 131 zr1 1 [(0, 131, x85)] h86 fun x87 h88 =>
 kAp 131 1400 x16 x87 h88 fun x89 h90 =>
 j83 x9 u x11 u u u u x89 u u u u x21 x22 x23 u u u u u u u u u u u u u u u u u h90) (j83 x9 u x11 u u u u x16 u u u u x21 x22 x23 u u u u u u u u u u u u u u u u u h41)) (some (x16, h41))) k x0 u x2 u u u u .nils u u u u x6 x8 (qi 0) u u u u u u u u u u u u u u u u u h7)
theorem p41_ok (k : Nat) : p41 k = funcS k 3 lit41 := by kernel_rfl
def p43 (_ : Nat) : CtxK → List V → TH → R := fun X => ap 1 (fun x0 h1 =>
 kCall X 58 [x0] h1 fun x2 h3 =>
 kCall X 87 [x0, x2] h3 fun x4 h5 =>
 kExt x4 0 fun x6 =>
 kExt x4 1 fun _ =>
 kNew zr4 h5 fun x8 h9 =>
 kSA 16 x8 x6 h9 fun _ h11 =>
 kLA 16 x8 h11 fun x12 =>
 kCall X 88 [x12] h11 fun x13 h14 =>
 some (x13, h14))
theorem p43_ok (k : Nat) : p43 k = funcS k 1 lit43 := by kernel_rfl
def p44 (_ : Nat) : CtxK → List V → TH → R := fun X => ap 2 (fun x0 x1 h2 =>
 kNew zr1 h2 fun x3 h4 =>
 kCall X 89 [x0, (qb 7), x1] h4 fun x5 h6 =>
 kSA 131 x3 x5 h6 fun _ h8 =>
 rsS [.cell 4 true 131] [x0, x1, u, u, x3, x0, x1, x5] h8)
theorem p44_ok (k : Nat) : p44 k = funcS k 2 lit44 := by kernel_rfl
def p51 (_ : Nat) : CtxK → List V → TH → R := fun _ => ap 1 (fun x0 h1 =>
 kNew (V.cellsR x0) h1 fun x2 h3 =>
 kNew zr2 h3 fun x4 h5 =>
 kFA 48 x2 fun x6 =>
 kL1 x6 h5 fun x7 =>
 kLen x7 fun x8 =>
 kEqI false x8 (qi 0) fun x9 =>
 brS x9 (kFA 40 x2 fun x10 =>
 kLA 8 x10 h5 fun x11 =>
 kSA 8 x4 x11 h5 fun _ h13 =>
 rsS [.cell 2 true 8] [x0, x2, x4, x6, x7, x8, x9, x10, x11, u, u, u, u, u, u, u, u] h13) (kFA 48 x2 fun x14 =>
 kL1 x14 h5 fun x15 =>
 kFA 48 x2 fun x16 =>
 kL1 x16 h5 fun x17 =>
 kLen x17 fun x18 =>
 kBin .sub x18 (qi 1) fun x19 =>
 kIS 8 x15 x19 fun x20 =>
 kLA 8 x20 h5 fun x21 =>
 kSA 8 x4 x21 h5 fun _ h23 =>
 rsS [.cell 2 true 8] [x0, x2, x4, x6, x7, x8, x9, u, u, x14, x15, x16, x17, x18, x19, x20, x21] h23))
theorem p51_ok (k : Nat) : p51 k = funcS k 1 lit51 := by kernel_rfl
def p54 (_ : Nat) : CtxK → List V → TH → R := fun X => ap 2 (fun x0 x1 h2 =>
 kCall X 95 [x0, x1] h2 fun x3 h4 =>
 kBin .geq x3 (qi 0) fun x5 =>
 some (x5, h4))
theorem p54_ok (k : Nat) : p54 k = funcS k 2 lit54 := by kernel_rfl
def p56 (k : Nat) : CtxK → List V → TH → R := fun X => ap 2 (fun x0 x1 h2 =>
 kNilc x0 fun x3 =>
 kFA 54 x3 fun x4 =>
 kLA 5 x4 h2 fun x5 =>
 lp (α := Cur 79) (zN 79) (fun n86 x6 x7 _ _ _ x11 x12 _ _ _ _ _ x18 x19 _ _ _ _ _ _ _ _ _ _ _ _ _ _ _ _ _ _ _ _ _ _ _ _ _ _ _ _ _ _ _ _ _ _ _ _ _ _ _ _ _ _ _ _ _ _ _ _ _ _ _ _ _ _ _ _ _ _ _ _ _ _ _ _ _ h85 =>
 kBin .lss x19 (qi 5) fun x87 =>
 brS x87 (kIx 5 x18 x19 fun x88 =>
 jc (α := Cur 79) (fun x89 x90 _ _ _ x94 x95 _ _ _ _ _ x101 x102 _ _ _ _ _ _ _ _ _ _ _ _ _ _ _ _ _ _ _ _ _ _ _ _ _ _ _ _ _ _ _ _ _ _ _ _ _ _ _ _ _ _ _ _ _ _ _ _ _ _ _ _ _ _ _ _ _ _ _ _ _ _ _ _ _ h168 =>
 kBin .add x102 (qi 1) fun x170 =>
 n86 x89 x90 u u u x94 x95 u u u u u x101 x170 u u u u u u u u u u u u u u u u u u u u u u u u u u u u u u u u u u u u u u u u u u u u u u u u u u u u u u u u u u u u u u u u u h168) fun j169 =>
 brS x88 (kBS 1 [(qi 0)] 1 [(0, 1, x19)] h85 fun x171 h172 =>
 kNilc x6 fun x173 =>
 kFA 64 x173 fun x174 =>
 kIA 5 49 x174 x19 fun x175 =>
 kLA 49 x175 h172 fun x178 =>
 kBS 49 zr0 1 [(0, 49, x178)] h172 fun x179 h180 =>
 kAp 1 8 x11 x171 h180 fun x181 h182 =>
 kAp 49 600 x12 x179 h182 fun x183 h184 =>
 dokS [h180, h182, h184] ((fun h176 => kLA 49 x175 h176 fun x177 =>
 some (x177, h176), x178, 0, 1) :: []) (j169 x6 x7 u u u x181 x183 u u u u u x18 x19 u u u u u u u u u u u u u u u u u u u u u u u u u u u u u u u u u u u u u u u u u u u u u u u u u u u u u u u u u u u u u u u u u h184)) (j169 x6 x7 u u u x11 x12 u u u u u x18 x19 u u u u u u u u u u u u u u u u u u u u u u u u u u u u u u u u u u u u u u u u u u u u u u u u u u u u u u u u u u u u u u u u u h85)) (kNilc x6 fun x185 =>
 kFA 2 x185 fun x186 =>
 kL1 x186 h85 fun x189 =>
 kCall X 97 [x12] h85 fun x190 h191 =>
 kCall X 96 [x7, x189, x11, x190] h191 fun x192 h193 =>
 kNot x192 fun x194 =>
 dokS [h85, h191, h193] ((fun h187 => kL1 x186 h187 fun x188 =>
 some (x188, h187), x189, 0, 1) :: []) (brS x194 (some (.nils, h193)) (kCall X 98 [x11, x12] h193 fun x195 h196 =>
 kIS 49 x12 x195 fun x197 =>
 kLA 49 x197 h196 fun x198 =>
 kCall X 36 [x198] h196 fun x199 h200 =>
 kNilc x6 fun x201 =>
 kFA 3 x201 fun x202 =>
 kSA 49 x202 x199 h200 fun _ h204 =>
 kNilc x6 fun x205 =>
 kFA 52 x205 fun x206 =>
 kL1 x206 h204 fun x207 =>
 kNilc x6 fun x208 =>
 kFA 3 x208 fun x209 =>
 kFA 0 x209 fun x210 =>
 kS1 x210 x207 h204 fun _ h212 =>
 kNilc x6 fun x213 =>
 kFA 1 x213 fun x214 =>
 kS1 x214 (qi 3) h212 fun _ h216 =>
 kNilc x6 fun x217 =>
 kFA 0 x217 fun x218 =>
 kL1 x218 h216 fun x221 =>
 kNilc x6 fun x222 =>
 kFA 59 x222 fun x223 =>
 kIA 5 1 x223 x221 fun x224 =>
 kS1 x224 qt h216 fun _ h226 =>
 dokS [h216, h226] [] (kNilc x6 fun x227 =>
 kFA 53 x227 fun x228 =>
 kL1 x228 h226 fun x229 =>
 kCall X 41 [x6, x229, (.fn 45 [x6] [])] h226 fun x230 h231 =>
 some (x230, h231)))))) k x0 x1 u u u .nils .nils u u u u u x5 (qi 0) u u u u u u u u u u u u u u u u u u u u u u u u u u u u u u u u u u u u u u u u u u u u u u u u u u u u u u u u u u u u u u u u u h2)
theorem p56_ok (k : Nat) : p56 k = funcS k 2 lit56 := by kernel_rfl
def p61 (_ : Nat) : CtxK → List V → TH → R := fun X => ap 1 (fun x0 h1 =>
 kLen x0 fun x2 =>
 kConv .u64 x2 fun x3 =>
 kCall X 103 [x3] h1 fun x4 h5 =>
 kCall X 102 [x0, (qi 0), x2, x4] h5 fun _ h7 =>
 some (.tup [], h7))
theorem p61_ok (k : Nat) : p61 k = funcS k 1 lit61 := by kernel_rfl
def p64 (_ : Nat) : CtxK → List V → TH → R := fun X => ap 3 (fun x0 x1 x2 h3 =>
 kNew (V.cellsR x2) h3 fun x4 h5 =>
 kLA 131 x4 h5 fun x6 =>
 kCall X 104 [x6] h5 fun x7 h8 =>
 kNilc x0 fun x9 =>
 kFA 1 x9 fun x10 =>
 kL1 x10 h8 fun x11 =>
 kEqI true x11 (qi 2) fun x12 =>
 jc (α := JT) (fun x13 h14 =>
 jc (α := JT) (fun x16 h17 =>
 jc (α := JT) (fun x19 h20 =>
 jc (α := JT) (fun x22 h23 =>
 jc (α := JT) (fun x25 h26 =>
 jc (α := JT) (fun x28 h29 =>
 kPick x12 qt x28 fun x31 =>
 brS x31 (some (.nils, h29)) (kFA 13 x4 fun x32 =>
 kLA 49 x32 h29 fun x35 =>
 kNilc x0 fun x36 =>
 kFA 54 x36 fun x37 =>
 kIA 5 1 x37 x7 fun x38 =>
 kNilc x0 fun x39 =>
 kFA 64 x39 fun x40 =>
 kS1 x38 qt h29 fun _ h42 =>
 kIA 5 49 x40 x7 fun x43 =>
 kSA 49 x43 x35 h42 fun _ h45 =>
 dokS [h29, h42, h45] ((fun h33 => kLA 49 x32 h33 fun x34 =>
 some (x34, h33), x35, 0, 1) :: []) (kCall X 56 [x0, x1] h45 fun x46 h47 =>
 some (x46, h47)))) fun j30 =>
 wtS x12 false (kL1 x25 h26 fun x48 =>
 j30 x48 h26) (j30 u h26)) fun j27 =>
 wtS x12 false (kIA 5 1 x22 x16 fun x49 =>
 j27 x49 h23) (j27 u h23)) fun j24 =>
 wtS x12 false (kFA 54 x19 fun x50 =>
 j24 x50 h20) (j24 u h20)) fun j21 =>
 wtS x12 false (kNilc x13 fun x51 =>
 j21 x51 h17) (j21 u h17)) fun j18 =>
 wtS x12 false (j18 x7 h14) (j18 u h14)) fun j15 =>
 wtS x12 false (j15 x0 h8) (j15 u h8))
theorem p64_ok (k : Nat) : p64 k = funcS k 3 lit64 := by kernel_rfl
def p68 (k : Nat) : CtxK → List V → TH → R := fun X => ap 3 (fun x0 _ x2 h3 =>
 kNew (V.cellsR x2) h3 fun x4 h5 =>
 kLA 131 x4 h5 fun x6 =>
 kCall X 108 [x0, (qi 4), x6] h5 fun x7 h8 =>
 kNot x7 fun x9 =>
 brS x9 (some (.nils, h8)) (kNilc x0 fun x10 =>
 kFA 309 x10 fun x11 =>
 kL1 x11 h8 fun x12 =>
 kLen x12 fun x13 =>
 lp (α := Cur 96) (zN 96) (fun n111 x14 _ _ _ _ x19 _ _ _ _ _ _ _ _ _ _ _ x31 x32 _ _ _ _ _ _ _ _ _ _ _ _ _ _ _ _ _ _ _ _ _ _ _ _ _ _ _ _ _ _ _ _ _ _ _ _ _ _ _ _ _ _ _ _ _ _ _ _ _ _ _ _ _ _ _ _ _ _ _ _ _ _ _ _ _ _ _ _ _ _ _ _ _ _ _ _ _ h110 =>
 kBin .lss x32 x31 fun x112 =>
 brS x112 (kNilc x14 fun x113 =>
 kFA 309 x113 fun x114 =>
 kL1 x114 h110 fun x117 =>
 kIS 15 x117 x32 fun x118 =>
 kFA 0 x118 fun x119 =>
 kFA 1 x119 fun x120 =>
 kL1 x120 h110 fun x123 =>
 kFA 122 x19 fun x124 =>
 kL1 x124 h110 fun x127 =>
 kBin .leq x123 x127 fun x128 =>
 dokS [h110] [] (jc (α := Cur 96) (fun x129 _ _ _ _ x134 _ _ _ _ _ _ _ _ _ _ _ x146 x147 _ _ _ _ _ _ _ _ _ _ _ _ _ _ _ _ _ _ _ _ _ _ _ _ _ _ _ _ _ _ _ _ _ _ _ _ _ _ _ _ _ _ _ _ _ _ _ _ _ _ _ _ _ _ _ _ _ _ _ _ _ _ _ _ _ _ _ _ _ _ _ _ _ _ _ _ _ h225 =>
 kBin .add x147 (qi 1) fun x227 =>
 n111 x129 u u u u x134 u u u u u u u u u u u x146 x227 u u u u u u u u u u u u u u u u u u u u u u u u u u u u u u u u u u u u u u u u u u u u u u u u u u u u u u u u u u u u u u u u u u u u u u u u u u u u u h225) fun j226 =>
 brS x128 (kNilc x14 fun x228 =>
 kFA 309 x228 fun x229 =>
 kL1 x229 h110 fun x232 =>
 kLA 131 x19 h110 fun x235 =>
 kIS 15 x232 x32 fun x236 =>
 kFA 10 x236 fun x237 =>
 kCall X 104 [x235] h110 fun x238 h239 =>
 kIA 5 1 x237 x238 fun x240 =>
 kS1 x240 qt h239 fun _ h242 =>
 dokS [h110, h239, h242] ((fun h230 => kL1 x229 h230 fun x231 =>
 some (x231, h230), x232, 0, 1) :: []) (j226 x14 u u u u x19 u u u u u u u u u u u x31 x32 u u u u u u u u u u u u u u u u u u u u u u u u u u u u u u u u u u u u u u u u u u u u u u u u u u u u u u u u u u u u u u u u u u u u u u u u u u u u u h242)) (j226 x14 u u u u x19 u u u u u u u u u u u x31 x32 u u u u u u u u u u u u u u u u u u u u u u u u u u u u u u u u u u u u u u u u u u u u u u u u u u u u u u u u u u u u u u u u u u u u u u u u u u u u u h110))) (lp (α := Cur 96) (zN 96) (fun n340 x243 _ _ _ _ _ _ _ x251 _ _ _ _ _ _ _ _ _ _ _ _ _ _ _ _ _ _ _ _ _ _ _ _ _ _ _ _ _ _ _ _ _ _ _ _ _ _ _ _ _ _ _ _ _ _ _ _ _ _ _ _ _ _ _ _ _ _ _ _ _ _ _ _ _ _ _ _ _ _ _ _ _ _ _ _ _ _ _ _ _ _ _ _ _ _ _ h339 =>
 kNilc x243 fun x341 =>
 kFA 309 x341 fun x342 =>
 kL1 x342 h339 fun x345 =>
 kLen x345 fun x346 =>
 kBin .gtr x346 (qi 0) fun x347 =>
 jc (α := JT) (fun x348 h349 =>
 jc (α := JT) (fun x351 h352 =>
 jc (α := JT) (fun x354 h355 =>
 jc (α := V → TH → PD → R) (fun x359 h360 d361 =>
 jc (α := JT) (fun x363 h364 =>
 jc (α := JT) (fun x366 h367 =>
 jc (α := V → TH → PD → R) (fun x371 h372 d373 =>
 jc (α := JT) (fun x375 h376 =>
 jc (α := JT) (fun x378 h379 =>
 jc (α := JT) (fun x381 h382 =>
 jc (α := V → TH → PD → R) (fun x386 h387 d388 =>
 jc (α := JT) (fun x390 h391 =>
 kPick x347 x390 qf fun x393 =>
 dokS [h387, h391] d388 (brS x393 (kNilc x243 fun x394 =>
 kFA 309 x394 fun x395 =>
 kL1 x395 h391 fun x398 =>
 kIS 15 x398 (qi 0) fun x399 =>
 kFA 0 x399 fun x400 =>
 kFA 2 x400 fun x401 =>
 kLA 6 x401 h391 fun x404 =>
 kNilc x243 fun x405 =>
 kFA 309 x405 fun x406 =>
 kL1 x406 h391 fun x409 =>
 kIS 15 x409 (qi 0) fun x410 =>
 kFA 8 x410 fun x411 =>
 kLA 2 x411 h391 fun x414 =>
 kCall X 112 [x243, x404, x414] h391 fun x415 h416 =>
 kBS 131 zr1 1 [(0, 131, x415)] h416 fun x417 h418 =>
 kAp 131 1400 x251 x417 h418 fun x419 h420 =>
 dokS [h391, h418, h420] [] (kNilc x243 fun x421 =>
 kFA 309 x421 fun x422 =>
 kL1 x422 h420 fun x423 =>
 kP (sliceE 15 x423 (some (qi 1)) none) fun x424 =>
 kNilc x243 fun x425 =>
 kFA 309 x425 fun x426 =>
 kS1 x426 x424 h420 fun _ h428 =>
 n340 x243 u u u u u u u x419 u u u u u u u u u u u u u u u u u u u u u u u u u u u u u u u u u u u u u u u u u u u u u u u u u u u u u u u u u u u u u u u u u u u u u u u u u u u u u u u u u u u u u u u h428)) (kCall X 113 [x243] h391 fun x429 h430 =>
 kAp 131 1400 x251 x429 h430 fun x431 h432 =>
 some (x431, h432)))) fun j392 =>
 wtS x347 true (kCall X 110 [x371, x386] h387 fun x433 h434 =>
 j392 x433 h434) (j392 u h387)) fun j389 =>
 wtS x347 true (kL1 x381 h382 fun x435 =>
 j389 x435 h382 d373) (j389 u h382 d373)) fun j383 =>
 wtS x347 true (kFA 53 x378 fun x436 =>
 j383 x436 h379) (j383 u h379)) fun j380 =>
 wtS x347 true (kNilc x375 fun x437 =>
 j380 x437 h376) (j380 u h376)) fun j377 =>
 wtS x347 true (j377 x243 h372) (j377 u h372)) fun j374 =>
 wtS x347 true (kLA 5 x366 h367 fun x438 =>
 j374 x438 h367 d361) (j374 u h367 d361)) fun j368 =>
 wtS x347 true (kFA 10 x363 fun x439 =>
 j368 x439 h364) (j368 u h364)) fun j365 =>
 wtS x347 true (kIS 15 x359 (qi 0) fun x440 =>
 j365 x440 h360) (j365 u h360)) fun j362 =>
 wtS x347 true (kL1 x354 h355 fun x441 =>
 j362 x441 h355 []) (j362 u h355 [])) fun j356 =>
 wtS x347 true (kFA 309 x351 fun x442 =>
 j356 x442 h352) (j356 u h352)) fun j353 =>
 wtS x347 true (kNilc x348 fun x443 =>
 j353 x443 h349) (j353 u h349)) fun j350 =>
 wtS x347 true (j350 x243 h339) (j350 u h339)) k x14 u u u u u u u .nils u u u u u u u u u u u u u u u u u u u u u u u u u u u u u u u u u u u u u u u u u u u u u u u u u u u u u u u u u u u u u u u u u u u u u u u u u u u u u u u u u u u u u u u h110)) k x0 u u u u x4 u u u u u u u u u u u x13 (qi 0) u u u u u u u u u u u u u u u u u u u u u u u u u u u u u u u u u u u u u u u u u u u u u u u u u u u u u u u u u u u u u u u u u u u u u u u u u u u u u h8))
theorem p68_ok (k : Nat) : p68 k = funcS k 3 lit68 := by kernel_rfl
def p74 (_ : Nat) : CtxK → List V → TH → R := fun X => ap 2 (fun x0 x1 h2 =>
 kNew (V.cellsR x0) h2 fun x3 h4 =>
 kNew (V.cellsR x1) h4 fun x5 h6 =>
 kFA 62 x3 fun x7 =>
 kFA 2 x7 fun x8 =>
 kL1 x8 h6 fun x9 =>
 kLen x9 fun x10 =>
 kEqI false x10 (qi 0) fun x11 =>
 jc (α := JT) (fun x12 h13 =>
 jc (α := JT) (fun x15 h16 =>
 jc (α := JT) (fun x18 h19 =>
 jc (α := JT) (fun x21 h22 =>
 kPick x11 x21 qf fun x24 =>
 jc (α := JT) (fun x25 h26 =>
 jc (α := JT) (fun x28 h29 =>
 jc (α := JT) (fun x31 h32 =>
 jc (α := JT) (fun x34 h35 =>
 kPick x24 x34 qf fun x37 =>
 jc (α := JT) (fun x38 h39 =>
 jc (α := JT) (fun x41 h42 =>
 jc (α := JT) (fun x44 h45 =>
 jc (α := JT) (fun x47 h48 =>
 jc (α := JT) (fun x50 h51 =>
 kPick x37 x50 qf fun x53 =>
 kFA 0 x5 fun x54 =>
 kL1 x54 h51 fun x57 =>
 jc (α := JT) (fun x58 h59 =>
 jc (α := V → TH → PD → R) (fun x63 h64 d65 =>
 jc (α := JT) (fun x67 h68 =>
 kPick x57 qt x67 fun x70 =>
 kFA 1 x5 fun x71 =>
 kL1 x71 h68 fun x74 =>
 jc (α := JT) (fun x75 h76 =>
 jc (α := V → TH → PD → R) (fun x80 h81 d82 =>
 jc (α := JT) (fun x84 h85 =>
 jc (α := JT) (fun x87 h88 =>
 kPick x74 qt x87 fun x90 =>
 kFA 2 x5 fun x91 =>
 kL1 x91 h88 fun x94 =>
 jc (α := JT) (fun x95 h96 =>
 jc (α := V → TH → PD → R) (fun x100 h101 d102 =>
 jc (α := JT) (fun x104 h105 =>
 jc (α := JT) (fun x107 h108 =>
 jc (α := JT) (fun x110 h111 =>
 jc (α := JT) (fun x113 h114 =>
 jc (α := V → TH → PD → R) (fun x118 h119 d120 =>
 jc (α := JT) (fun x122 h123 =>
 jc (α := JT) (fun x125 h126 =>
 kPick x94 qt x125 fun x128 =>
 kFA 3 x5 fun x129 =>
 kL1 x129 h126 fun x132 =>
 jc (α := JT) (fun x133 h134 =>
 jc (α := V → TH → PD → R) (fun x138 h139 d140 =>
 jc (α := JT) (fun x142 h143 =>
 jc (α := JT) (fun x145 h146 =>
 kPick x132 qt x145 fun x148 =>
 kFA 4 x5 fun x149 =>
 kL1 x149 h146 fun x152 =>
 jc (α := JT) (fun x153 h154 =>
 jc (α := V → TH → PD → R) (fun x158 h159 d160 =>
 jc (α := JT) (fun x162 h163 =>
 kPick x152 qt x162 fun x165 =>
 kFA 5 x5 fun x166 =>
 kL1 x166 h163 fun x169 =>
 jc (α := JT) (fun x170 h171 =>
 jc (α := V → TH → PD → R) (fun x175 h176 d177 =>
 jc (α := JT) (fun x179 h180 =>
 kFA 6 x5 fun x182 =>
 kL1 x182 h180 fun x185 =>
 kFA 7 x5 fun x186 =>
 kL1 x186 h180 fun x189 =>
 kFA 8 x5 fun x190 =>
 kL1 x190 h180 fun x193 =>
 kFA 9 x5 fun x194 =>
 kL1 x194 h180 fun x197 =>
 kFA 10 x5 fun x198 =>
 kL1 x198 h180 fun x201 =>
 jc (α := JT) (fun x202 h203 =>
 kPick x169 qt x202 fun x205 =>
 jc (α := JT) (fun x206 h207 =>
 kPick x185 qt x206 fun x209 =>
 jc (α := JT) (fun x210 h211 =>
 jc (α := V → TH → PD → R) (fun x215 h216 d217 =>
 jc (α := JT) (fun x219 h220 =>
 jc (α := JT) (fun x222 h223 =>
 kPick x189 qt x222 fun x225 =>
 jc (α := JT) (fun x226 h227 =>
 jc (α := V → TH → PD → R) (fun x231 h232 d233 =>
 jc (α := JT) (fun x235 h236 =>
 kPick x193 qt x235 fun x238 =>
 jc (α := JT) (fun x239 h240 =>
 jc (α := V → TH → PD → R) (fun x244 h245 d246 =>
 jc (α := JT) (fun x248 h249 =>
 jc (α := JT) (fun x251 h252 =>
 kPick x197 qt x251 fun x254 =>
 jc (α := JT) (fun x255 h256 =>
 jc (α := V → TH → PD → R) (fun x260 h261 d262 =>
 jc (α := JT) (fun x264 h265 =>
 jc (α := JT) (fun x267 h268 =>
 kPick x201 qt x267 fun x270 =>
 kBS 1 [qf] 11 [(0, 1, x70), (1, 1, x90), (2, 1, x128), (3, 1, x148), (4, 1, x165), (5, 1, x205), (6, 1, x209), (7, 1, x225), (8, 1, x238), (9, 1, x254), (10, 1, x270)] h268 fun x271 h272 =>
 dokS [h180, h272] d262 (kCall X 120 [x271, qf] h272 fun x273 h274 =>
 kNot x273 fun x275 =>
 some (x275, h274))) fun j269 =>
 wtS x201 false (kEq' false (.agg [.int, .str]) x260 x264 fun x276 =>
 j269 x276 h265) (j269 u h265)) fun j266 =>
 wtS x201 false (kB [(qb 0), qs] [] fun x277 =>
 j266 x277 h261) (j266 u h261)) fun j263 =>
 wtS x201 false (kLA 2 x255 h256 fun x278 =>
 j263 x278 h256 d246) (j263 u h256 d246)) fun j257 =>
 wtS x201 false (kFA 129 x3 fun x279 =>
 j257 x279 h252) (j257 u h252)) fun j253 =>
 wtS x197 false (kEq' false (.agg [.int, .int, .int, .int, .int, .str]) x244 x248 fun x280 =>
 j253 x280 h249) (j253 u h249)) fun j250 =>
 wtS x197 false (kB [(qb 0), (qw 0), (qb 0), (qb 0), (qb 0), qs] [] fun x281 =>
 j250 x281 h245) (j250 u h245)) fun j247 =>
 wtS x197 false (kLA 6 x239 h240 fun x282 =>
 j247 x282 h240 d233) (j247 u h240 d233)) fun j241 =>
 wtS x197 false (kFA 123 x3 fun x283 =>
 j241 x283 h236) (j241 u h236)) fun j237 =>
 wtS x193 false (kEqI false x231 (qw 0) fun x284 =>
 j237 x284 h232) (j237 u h232)) fun j234 =>
 wtS x193 false (kL1 x226 h227 fun x285 =>
 j234 x285 h227 d217) (j234 u h227 d217)) fun j228 =>
 wtS x193 false (kFA 122 x3 fun x286 =>
 j228 x286 h223) (j228 u h223)) fun j224 =>
 wtS x189 false (kEq' false (.agg [.int, .int, .int, .int, .int, .int, .int, .str]) x215 x219 fun x287 =>
 j224 x287 h220) (j224 u h220)) fun j221 =>
 wtS x189 false (kB zr2 [] fun x288 =>
 j221 x288 h216) (j221 u h216)) fun j218 =>
 wtS x189 false (kLA 8 x210 h211 fun x289 =>
 j218 x289 h211 ((fun h199 => kL1 x198 h199 fun x200 =>
 some (x200, h199), x201, 0, 1) :: ((fun h195 => kL1 x194 h195 fun x196 =>
 some (x196, h195), x197, 0, 1) :: ((fun h191 => kL1 x190 h191 fun x192 =>
 some (x192, h191), x193, 0, 1) :: ((fun h187 => kL1 x186 h187 fun x188 =>
 some (x188, h187), x189, 0, 1) :: ((fun h183 => kL1 x182 h183 fun x184 =>
 some (x184, h183), x185, 0, 1) :: d177)))))) (j218 u h211 ((fun h199 => kL1 x198 h199 fun x200 =>
 some (x200, h199), x201, 0, 1) :: ((fun h195 => kL1 x194 h195 fun x196 =>
 some (x196, h195), x197, 0, 1) :: ((fun h191 => kL1 x190 h191 fun x192 =>
 some (x192, h191), x193, 0, 1) :: ((fun h187 => kL1 x186 h187 fun x188 =>
 some (x188, h187), x189, 0, 1) :: ((fun h183 => kL1 x182 h183 fun x184 =>
 some (x184, h183), x185, 0, 1) :: d177))))))) fun j212 =>
 wtS x189 false (kFA 114 x3 fun x290 =>
 j212 x290 h207) (j212 u h207)) fun j208 =>
 wtS x185 false (j208 x53 h203) (j208 u h203)) fun j204 =>
 wtS x169 false (kCall X 15 [x175, x179] h180 fun x291 h292 =>
 j204 x291 h292) (j204 u h180)) fun j181 =>
 wtS x169 false (kB zr0 [] fun x293 =>
 j181 x293 h176) (j181 u h176)) fun j178 =>
 wtS x169 false (kLA 49 x170 h171 fun x294 =>
 j178 x294 h171 d160) (j178 u h171 d160)) fun j172 =>
 wtS x169 false (kFA 13 x3 fun x295 =>
 j172 x295 h163) (j172 u h163)) fun j164 =>
 wtS x152 false (kEqI false x158 (qb 0) fun x296 =>
 j164 x296 h159) (j164 u h159)) fun j161 =>
 wtS x152 false (kL1 x153 h154 fun x297 =>
 j161 x297 h154 ((fun h156 => kL1 x153 h156 fun x157 =>
 some (x157, h156), x297, 0, 1) :: d140)) (j161 u h154 d140)) fun j155 =>
 wtS x152 false (kFA 12 x3 fun x298 =>
 j155 x298 h146) (j155 u h146)) fun j147 =>
 wtS x132 false (kEq' false (.agg [.int, .int, .int]) x138 x142 fun x299 =>
 j147 x299 h143) (j147 u h143)) fun j144 =>
 wtS x132 false (kB [(qb 0), (qb 0), (qi 0)] [] fun x300 =>
 j144 x300 h139) (j144 u h139)) fun j141 =>
 wtS x132 false (kLA 3 x133 h134 fun x301 =>
 j141 x301 h134 ((fun h136 => kLA 3 x133 h136 fun x137 =>
 some (x137, h136), x301, 0, 1) :: d120)) (j141 u h134 d120)) fun j135 =>
 wtS x132 false (kFA 9 x3 fun x302 =>
 j135 x302 h126) (j135 u h126)) fun j127 =>
 wtS x94 false (kPick x110 x122 qf fun x303 =>
 j127 x303 h123) (j127 u h123)) fun j124 =>
 wtS x110 true (kNot x118 fun x304 =>
 j124 x304 h119) (j124 u h119)) fun j121 =>
 wtS x110 true (kL1 x113 h114 fun x305 =>
 j121 x305 h114 ((fun h116 => kL1 x113 h116 fun x117 =>
 some (x117, h116), x305, 0, 1) :: d102)) (j121 u h114 d102)) fun j115 =>
 wtS x110 true (kFA 8 x3 fun x306 =>
 j115 x306 h111) (j115 u h111)) fun j112 =>
 wtS x94 false (j112 x107 h108) (j112 u h108)) fun j109 =>
 wtS x94 false (kEq' false (.agg [.int, .int]) x100 x104 fun x307 =>
 j109 x307 h105) (j109 u h105)) fun j106 =>
 wtS x94 false (kB [(qw 0), (qb 0)] [] fun x308 =>
 j106 x308 h101) (j106 u h101)) fun j103 =>
 wtS x94 false (kLA 2 x95 h96 fun x309 =>
 j103 x309 h96 d82) (j103 u h96 d82)) fun j97 =>
 wtS x94 false (kFA 6 x3 fun x310 =>
 j97 x310 h88) (j97 u h88)) fun j89 =>
 wtS x74 false (kEq' false (.agg [.int, .int]) x80 x84 fun x311 =>
 j89 x311 h85) (j89 u h85)) fun j86 =>
 wtS x74 false (kB [(qw 0), (qb 0)] [] fun x312 =>
 j86 x312 h81) (j86 u h81)) fun j83 =>
 wtS x74 false (kLA 2 x75 h76 fun x313 =>
 j83 x313 h76 ((fun h78 => kLA 2 x75 h78 fun x79 =>
 some (x79, h78), x313, 0, 1) :: d65)) (j83 u h76 d65)) fun j77 =>
 wtS x74 false (kFA 4 x3 fun x314 =>
 j77 x314 h68) (j77 u h68)) fun j69 =>
 wtS x57 false (kEqI false x63 (qw 0) fun x315 =>
 j69 x315 h64) (j69 u h64)) fun j66 =>
 wtS x57 false (kL1 x58 h59 fun x316 =>
 j66 x316 h59 ((fun h61 => kL1 x58 h61 fun x62 =>
 some (x62, h61), x316, 0, 1) :: [])) (j66 u h59 [])) fun j60 =>
 wtS x57 false (kFA 3 x3 fun x317 =>
 j60 x317 h51) (j60 u h51)) fun j52 =>
 wtS x37 true (kCall X 15 [x44, x47] h48 fun x318 h319 =>
 j52 x318 h319) (j52 u h48)) fun j49 =>
 wtS x37 true (kB zr0 [] fun x320 =>
 j49 x320 h45) (j49 u h45)) fun j46 =>
 wtS x37 true (kLA 49 x41 h42 fun x321 =>
 j46 x321 h42) (j46 u h42)) fun j43 =>
 wtS x37 true (kFA 3 x38 fun x322 =>
 j43 x322 h39) (j43 u h39)) fun j40 =>
 wtS x37 true (kFA 62 x3 fun x323 =>
 j40 x323 h35) (j40 u h35)) fun j36 =>
 wtS x24 true (kEqI false x31 (qw 0) fun x324 =>
 j36 x324 h32) (j36 u h32)) fun j33 =>
 wtS x24 true (kL1 x28 h29 fun x325 =>
 j33 x325 h29) (j33 u h29)) fun j30 =>
 wtS x24 true (kFA 1 x25 fun x326 =>
 j30 x326 h26) (j30 u h26)) fun j27 =>
 wtS x24 true (kFA 62 x3 fun x327 =>
 j27 x327 h22) (j27 u h22)) fun j23 =>
 wtS x11 true (kEqI false x18 (qi 0) fun x328 =>
 j23 x328 h19) (j23 u h19)) fun j20 =>
 wtS x11 true (kL1 x15 h16 fun x329 =>
 j20 x329 h16) (j20 u h16)) fun j17 =>
 wtS x11 true (kFA 0 x12 fun x330 =>
 j17 x330 h13) (j17 u h13)) fun j14 =>
 wtS x11 true (kFA 62 x3 fun x331 =>
 j14 x331 h6) (j14 u h6))
theorem p74_ok (k : Nat) : p74 k = funcS k 2 lit74 := by kernel_rfl
def p78 (_ : Nat) : CtxK → List V → TH → R := fun X => ap 1 (fun x0 h1 =>
 kNew (V.cellsR x0) h1 fun x2 h3 =>
 kFA 0 x2 fun x4 =>
 kL1 x4 h3 fun x5 =>
 kEqI false x5 (qi 0) fun x6 =>
 brS x6 (kFA 1 x2 fun x7 =>
 kL1 x7 h3 fun x8 =>
 kEqI false x8 (qw 0) fun x9 =>
 jc (α := JT) (fun x10 h11 =>
 jc (α := JT) (fun x13 h14 =>
 jc (α := JT) (fun x16 h17 =>
 jc (α := JT) (fun x19 h20 =>
 kPick x9 x19 qf fun x22 =>
 jc (α := JT) (fun x23 h24 =>
 jc (α := JT) (fun x26 h27 =>
 jc (α := JT) (fun x29 h30 =>
 kPick x22 x29 qf fun x32 =>
 some (x32, h30)) fun j31 =>
 wtS x22 true (kCall X 123 [x26] h27 fun x33 h34 =>
 j31 x33 h34) (j31 u h27)) fun j28 =>
 wtS x22 true (kLA 49 x23 h24 fun x35 =>
 j28 x35 h24) (j28 u h24)) fun j25 =>
 wtS x22 true (kFA 3 x2 fun x36 =>
 j25 x36 h20) (j25 u h20)) fun j21 =>
 wtS x9 true (kEqI false x16 (qi 0) fun x37 =>
 j21 x37 h17) (j21 u h17)) fun j18 =>
 wtS x9 true (kLen x13 fun x38 =>
 j18 x38 h14) (j18 u h14)) fun j15 =>
 wtS x9 true (kL1 x10 h11 fun x39 =>
 j15 x39 h11) (j15 u h11)) fun j12 =>
 wtS x9 true (kFA 2 x2 fun x40 =>
 j12 x40 h3) (j12 u h3)) (kEqI false x5 (qi 2) fun x41 =>
 brS x41 (kFA 1 x2 fun x42 =>
 kL1 x42 h3 fun x43 =>
 kEqI false x43 (qw 0) fun x44 =>
 jc (α := JT) (fun x45 h46 =>
 jc (α := JT) (fun x48 h49 =>
 jc (α := JT) (fun x51 h52 =>
 jc (α := JT) (fun x54 h55 =>
 kPick x44 x54 qf fun x57 =>
 jc (α := JT) (fun x58 h59 =>
 jc (α := JT) (fun x61 h62 =>
 jc (α := JT) (fun x64 h65 =>
 kPick x57 x64 qf fun x67 =>
 some (x67, h65)) fun j66 =>
 wtS x57 true (kCall X 50 [x61] h62 fun x68 h69 =>
 j66 x68 h69) (j66 u h62)) fun j63 =>
 wtS x57 true (kLA 49 x58 h59 fun x70 =>
 j63 x70 h59) (j63 u h59)) fun j60 =>
 wtS x57 true (kFA 3 x2 fun x71 =>
 j60 x71 h55) (j60 u h55)) fun j56 =>
 wtS x44 true (kEqI false x51 (qi 0) fun x72 =>
 j56 x72 h52) (j56 u h52)) fun j53 =>
 wtS x44 true (kLen x48 fun x73 =>
 j53 x73 h49) (j53 u h49)) fun j50 =>
 wtS x44 true (kL1 x45 h46 fun x74 =>
 j50 x74 h46) (j50 u h46)) fun j47 =>
 wtS x44 true (kFA 2 x2 fun x75 =>
 j47 x75 h3) (j47 u h3)) (kFA 2 x2 fun x76 =>
 kL1 x76 h3 fun x77 =>
 kB zr0 [(48, 1, x77)] fun x78 =>
 kNew zr0 h3 fun x79 h80 =>
 kSA 49 x79 x78 h80 fun _ h82 =>
 kFA 2 x2 fun x83 =>
 kL1 x83 h82 fun x84 =>
 kLen x84 fun x85 =>
 kBin .gtr x85 (qi 0) fun x86 =>
 jc (α := Cur 65) (fun _ x88 _ x90 _ _ _ _ _ _ _ _ _ _ _ _ _ _ _ _ _ _ _ _ _ _ _ _ _ _ _ _ _ _ _ _ _ _ _ _ _ _ _ _ _ _ _ _ _ _ _ _ _ _ _ _ _ _ _ _ _ _ _ _ _ h152 =>
 kFA 0 x88 fun x154 =>
 kL1 x154 h152 fun x155 =>
 kEqI false x155 (qi 1) fun x156 =>
 jc (α := JT) (fun x157 h158 =>
 jc (α := JT) (fun x160 h161 =>
 jc (α := JT) (fun x163 h164 =>
 kPick x156 x163 qf fun x166 =>
 jc (α := JT) (fun x167 h168 =>
 jc (α := JT) (fun x170 h171 =>
 kPick x166 x170 qf fun x173 =>
 some (x173, h171)) fun j172 =>
 wtS x166 true (kCall X 50 [x167] h168 fun x174 h175 =>
 j172 x174 h175) (j172 u h168)) fun j169 =>
 wtS x166 true (kLA 49 x90 h164 fun x176 =>
 j169 x176 h164) (j169 u h164)) fun j165 =>
 wtS x156 true (kCall X 123 [x160] h161 fun x177 h178 =>
 j165 x177 h178) (j165 u h161)) fun j162 =>
 wtS x156 true (kLA 49 x157 h158 fun x179 =>
 j162 x179 h158) (j162 u h158)) fun j159 =>
 wtS x156 true (kFA 3 x88 fun x180 =>
 j159 x180 h152) (j159 u h152)) fun j153 =>
 brS x86 (kFA 2 x2 fun x181 =>
 kL1 x181 h82 fun x182 =>
 kIS 8 x182 (qi 0) fun x183 =>
 kFA 1 x183 fun x184 =>
 kL1 x184 h82 fun x185 =>
 kBin .sub x185 (qw 1) fun x186 =>
 kFA 40 x79 fun x187 =>
 kFA 1 x187 fun x188 =>
 kS1 x188 x186 h82 fun _ h190 =>
 j153 u x2 u x79 u u u u u u u u u u u u u u u u u u u u u u u u u u u u u u u u u u u u u u u u u u u u u u u u u u u u u u u u u u u u u h190) (j153 u x2 u x79 u u u u u u u u u u u u u u u u u u u u u u u u u u u u u u u u u u u u u u u u u u u u u u u u u u u u u u u u u u u u u h82))))
theorem p78_ok (k : Nat) : p78 k = funcS k 1 lit78 := by kernel_rfl
def p84 (_ : Nat) : CtxK → List V → TH → R := fun _ => ap 1 (fun x0 h1 =>
 kNew (V.cellsR x0) h1 fun x2 h3 =>
 some ((.fn 125 [] [x2]), h3))
theorem p84_ok (k : Nat) : p84 k = funcS k 1 lit84 := by kernel_rfl
def p85 (k : Nat) : CtxK → List V → TH → R := fun X => ap 2 (fun x0 x1 h2 =>
 kCall X 126 [x0, x1] h2 fun x3 h4 =>
 kEqI false x3 (.int .i64 (-1)) fun x5 =>
 brS x5 (some (x0, h4)) (kBin .add x3 (qi 1) fun x6 =>
 lp (α := Cur 42) (zN 42) (fun n50 x7 x8 _ _ _ x12 x13 _ _ _ _ _ _ _ _ _ _ _ _ _ _ _ _ _ _ _ _ _ _ _ _ _ _ _ _ _ _ _ _ _ _ _ h49 =>
 kLen x7 fun x51 =>
 kBin .lss x13 x51 fun x52 =>
 brS x52 (kIS 1 x7 x13 fun x53 =>
 kL1 x53 h49 fun x54 =>
 kCv X x8 [x54] h49 fun x55 h56 =>
 kNot x55 fun x57 =>
 jc (α := Cur 42) (fun x58 x59 _ _ _ x63 x64 _ _ _ _ _ _ _ _ _ _ _ _ _ _ _ _ _ _ _ _ _ _ _ _ _ _ _ _ _ _ _ _ _ _ _ h100 =>
 kBin .add x64 (qi 1) fun x102 =>
 n50 x58 x59 u u u x63 x102 u u u u u u u u u u u u u u u u u u u u u u u u u u u u u u u u u u u h100) fun j101 =>
 brS x57 (kIS 1 x7 x12 fun x103 =>
 kS1 x103 x54 h56 fun _ h105 =>
 kBin .add x12 (qi 1) fun x106 =>
 j101 x7 x8 u u u x106 x13 u u u u u u u u u u u u u u u u u u u u u u u u u u u u u u u u u u u h105) (j101 x7 x8 u u u x12 x13 u u u u u u u u u u u u u u u u u u u u u u u u u u u u u u u u u u u h56)) (kP (sliceE 1 x7 (some x12) none) fun x107 =>
 kCl [(qi 0)] 1 x107 h49 fun _ h109 =>
 kP (sliceE 1 x7 none (some x12)) fun x110 =>
 some (x110, h109))) k x0 x1 u u u x3 x6 u u u u u u u u u u u u u u u u u u u u u u u u u u u u u u u u u u u h4))
theorem p85_ok (k : Nat) : p85 k = funcS k 2 lit85 := by kernel_rfl
def p91 (k : Nat) : CtxK → List V → TH → R := fun X => ap 1 (fun x0 h1 =>
 kNew (V.cellsR x0) h1 fun x2 h3 =>
 kFA 0 x2 fun x4 =>
 kLA 30 x4 h3 fun x5 =>
 lp (α := Cur 42) (zN 42) (fun n49 _ x7 _ _ _ _ _ _ x14 x15 _ _ _ _ _ _ _ _ _ _ _ _ _ _ _ _ _ _ _ _ _ _ _ _ _ _ _ _ _ _ _ _ h48 =>
 kBin .lss x15 (qi 6) fun x50 =>
 brS x50 (kP (indexE (some (6, 5, true)) x14 x15) fun x51 =>
 kNew [qf, qs, qs, qs, qs] h48 fun x52 h53 =>
 kSA 5 x52 x51 h53 fun _ h55 =>
 kLA 5 x52 h55 fun x56 =>
 kCall X 132 [x56] h55 fun x57 h58 =>
 kNot x57 fun x59 =>
 brS x59 (some (qf, h58)) (kBin .add x15 (qi 1) fun x60 =>
 n49 u x7 u u u u u u x14 x60 u u u u u u u u u u u u u u u u u u u u u u u u u u u u u u u u h58)) (kFA 30 x7 fun x61 =>
 kLA 9 x61 h48 fun x62 =>
 lp (α := Cur 42) (zN 42) (fun n106 _ _ _ _ _ _ _ _ _ _ _ _ _ _ _ _ _ x80 x81 _ _ _ _ _ _ _ _ _ _ _ _ _ _ _ _ _ _ _ _ _ _ _ h105 =>
 kBin .lss x81 (qi 3) fun x107 =>
 brS x107 (kP (indexE (some (3, 3, true)) x80 x81) fun x108 =>
 kNew [(qw 0), (qb 0), qs] h105 fun x109 h110 =>
 kSA 3 x109 x108 h110 fun _ h112 =>
 kFA 1 x109 fun x113 =>
 kFA 1 x113 fun x114 =>
 kL1 x114 h112 fun x115 =>
 kEq' true (.leaf .str) x115 qs fun x116 =>
 jc (α := JT) (fun x117 h118 =>
 jc (α := JT) (fun x120 h121 =>
 jc (α := JT) (fun x123 h124 =>
 jc (α := JT) (fun x126 h127 =>
 kPick x116 qt x126 fun x129 =>
 jc (α := JT) (fun x130 h131 =>
 jc (α := JT) (fun x133 h134 =>
 jc (α := JT) (fun x136 h137 =>
 jc (α := JT) (fun x139 h140 =>
 jc (α := JT) (fun x142 h143 =>
 jc (α := JT) (fun x145 h146 =>
 jc (α := JT) (fun x148 h149 =>
 jc (α := JT) (fun x151 h152 =>
 kPick x129 qt x151 fun x154 =>
 brS x154 (some (qf, h152)) (kBin .add x81 (qi 1) fun x155 =>
 n106 u u u u u u u u u u u u u u u u u x80 x155 u u u u u u u u u u u u u u u u u u u u u u u h152)) fun j153 =>
 wtS x129 false (kPick x139 x148 qf fun x156 =>
 j153 x156 h149) (j153 u h149)) fun j150 =>
 wtS x139 true (kEq' true (.agg [.int, .int, .str]) x142 x145 fun x157 =>
 j150 x157 h146) (j150 u h146)) fun j147 =>
 wtS x139 true (kB [(qw 0), (qb 0), qs] [] fun x158 =>
 j147 x158 h143) (j147 u h143)) fun j144 =>
 wtS x139 true (kLA 3 x109 h140 fun x159 =>
 j144 x159 h140) (j144 u h140)) fun j141 =>
 wtS x129 false (j141 x136 h137) (j141 u h137)) fun j138 =>
 wtS x129 false (kEqI false x133 (qw 0) fun x160 =>
 j138 x160 h134) (j138 u h134)) fun j135 =>
 wtS x129 false (kL1 x130 h131 fun x161 =>
 j135 x161 h131) (j135 u h131)) fun j132 =>
 wtS x129 false (kFA 0 x109 fun x162 =>
 j132 x162 h127) (j132 u h127)) fun j128 =>
 wtS x116 false (kBin .gtr x123 (qb 3) fun x163 =>
 j128 x163 h124) (j128 u h124)) fun j125 =>
 wtS x116 false (kL1 x120 h121 fun x164 =>
 j125 x164 h121) (j125 u h121)) fun j122 =>
 wtS x116 false (kFA 0 x117 fun x165 =>
 j122 x165 h118) (j122 u h118)) fun j119 =>
 wtS x116 false (kFA 1 x109 fun x166 =>
 j119 x166 h112) (j119 u h112)) (some (qt, h105))) k u u u u u u u u u u u u u u u u u x62 (qi 0) u u u u u u u u u u u u u u u u u u u u u u u h48)) k u x2 u u u u u u x5 (qi 0) u u u u u u u u u u u u u u u u u u u u u u u u u u u u u u u u h3)
theorem p91_ok (k : Nat) : p91 k = funcS k 1 lit91 := by kernel_rfl
def p94 (_ : Nat) : CtxK → List V → TH → R := fun _ => ap 1 (fun x0 h1 =>
 kEq' false (.nilR .sl) x0 .nils fun x2 =>
 brS x2 (some (.nils, h1)) (kBS 8 zr2 0 [] h1 fun x3 h4 =>
 kAp 8 40 x3 x0 h4 fun x5 h6 =>
 some (x5, h6)))
theorem p94_ok (k : Nat) : p94 k = funcS k 1 lit94 := by kernel_rfl
def p101 (k : Nat) : CtxK → List V → TH → R := fun _ => ap 2 (fun x0 x1 h2 =>
 kLen x0 fun x3 =>
 kLen x1 fun x4 =>
 kEqI true x3 x4 fun x5 =>
 brS x5 (some (qf, h2)) (kLen x0 fun x6 =>
 lp (α := Cur 26) (zN 26) (fun n34 x7 x8 _ _ _ _ _ _ _ _ _ _ x19 x20 _ _ _ _ _ _ _ _ _ _ _ _ h33 =>
 kBin .lss x20 x19 fun x35 =>
 brS x35 (kIS 1 x7 x20 fun x36 =>
 kL1 x36 h33 fun x39 =>
 kIS 1 x8 x20 fun x40 =>
 kL1 x40 h33 fun x43 =>
 kEqI true x39 x43 fun x44 =>
 dokS [h33] [] (brS x44 (some (qf, h33)) (kBin .add x20 (qi 1) fun x45 =>
 n34 x7 x8 u u u u u u u u u u x19 x45 u u u u u u u u u u u u h33))) (some (qt, h33))) k x0 x1 u u u u u u u u u u x6 (qi 0) u u u u u u u u u u u u h2))
theorem p101_ok (k : Nat) : p101 k = funcS k 2 lit101 := by kernel_rfl
def p106 (k : Nat) : CtxK → List V → TH → R := fun X => ap 2 (fun x0 x1 h2 =>
 kNew (V.cellsR x1) h2 fun x3 h4 =>
 kNilc x0 fun x5 =>
 kFA 3 x5 fun x6 =>
 kFA 0 x6 fun x7 =>
 kL1 x7 h4 fun x10 =>
 kNilc x0 fun x11 =>
 kFA 52 x11 fun x12 =>
 kL1 x12 h4 fun x15 =>
 kBin .gtr x10 x15 fun x16 =>
 dokS [h4] [] (jc (α := Cur 92) (fun _ _ _ _ _ _ _ _ _ _ _ _ _ _ _ _ _ _ _ _ _ _ _ _ _ _ _ _ _ _ _ _ _ _ _ _ _ _ _ _ _ _ _ _ _ _ _ _ _ _ _ _ _ _ _ _ _ _ _ _ _ _ _ _ _ _ _ _ _ _ _ _ _ _ _ _ _ _ _ _ _ _ _ _ _ _ _ _ _ _ _ _ h109 =>
 some (.tup [], h109)) fun j110 =>
 brS x16 (j110 u u u u u u u u u u u u u u u u u u u u u u u u u u u u u u u u u u u u u u u u u u u u u u u u u u u u u u u u u u u u u u u u u u u u u u u u u u u u u u u u u u u u u u u u u u u u h4) (kNilc x0 fun x111 =>
 kFA 3 x111 fun x112 =>
 kFA 0 x112 fun x113 =>
 kL1 x113 h4 fun x116 =>
 kNilc x0 fun x117 =>
 kFA 52 x117 fun x118 =>
 kL1 x118 h4 fun x121 =>
 kBin .lss x116 x121 fun x122 =>
 dokS [h4] [] (jc (α := Cur 92) (fun _ _ _ _ _ _ _ _ _ _ _ _ _ _ _ _ _ _ _ _ _ _ _ _ _ _ _ _ _ _ _ _ _ _ _ _ _ _ _ _ _ _ _ _ _ _ _ _ _ _ _ _ _ _ _ _ _ _ _ _ _ _ _ _ _ _ _ _ _ _ _ _ _ _ _ _ _ _ _ _ _ _ _ _ _ _ _ _ _ _ _ _ h215 =>
 j110 u u u u u u u u u u u u u u u u u u u u u u u u u u u u u u u u u u u u u u u u u u u u u u u u u u u u u u u u u u u u u u u u u u u u u u u u u u u u u u u u u u u u u u u u u u u u h215) fun j216 =>
 brS x122 (kNilc x0 fun x217 =>
 kFA 3 x217 fun x218 =>
 kLA 49 x218 h4 fun x221 =>
 kLA 52 x3 h4 fun x224 =>
 kNew zr0 h4 fun x225 h226 =>
 kCall X 155 [x221, x224] h226 fun x227 h228 =>
 kExt x227 0 fun x229 =>
 kExt x227 1 fun x230 =>
 kSA 49 x225 x229 h228 fun _ h232 =>
 dokS [h226, h228, h232] [] (kEqI false x230 (qi 0) fun x233 =>
 jc (α := Cur 92) (fun _ _ _ _ _ _ _ _ _ _ _ _ _ _ _ _ _ _ _ _ _ _ _ _ _ _ _ _ _ _ _ _ _ _ _ _ _ _ _ _ _ _ _ _ _ _ _ _ _ _ _ _ _ _ _ _ _ _ _ _ _ _ _ _ _ _ _ _ _ _ _ _ _ _ _ _ _ _ _ _ _ _ _ _ _ _ _ _ _ _ _ _ h326 =>
 j216 u u u u u u u u u u u u u u u u u u u u u u u u u u u u u u u u u u u u u u u u u u u u u u u u u u u u u u u u u u u u u u u u u u u u u u u u u u u u u u u u u u u u u u u u u u u u h326) fun j327 =>
 brS x233 (kLA 49 x225 h232 fun x328 =>
 kNilc x0 fun x329 =>
 kFA 3 x329 fun x330 =>
 kSA 49 x330 x328 h232 fun _ h332 =>
 j327 u u u u u u u u u u u u u u u u u u u u u u u u u u u u u u u u u u u u u u u u u u u u u u u u u u u u u u u u u u u u u u u u u u u u u u u u u u u u u u u u u u u u u u u u u u u u h332) (j327 u u u u u u u u u u u u u u u u u u u u u u u u u u u u u u u u u u u u u u u u u u u u u u u u u u u u u u u u u u u u u u u u u u u u u u u u u u u u u u u u u u u u u u u u u u u u h232))) (kFA 0 x3 fun x333 =>
 kL1 x333 h4 fun x334 =>
 kEqI false x334 (qi 1) fun x335 =>
 jc (α := Cur 92) (fun _ _ _ _ _ _ _ _ _ _ _ _ _ _ _ _ _ _ _ _ _ _ _ _ _ _ _ _ _ _ _ _ _ _ _ _ _ _ _ _ _ _ _ _ _ _ _ _ _ _ _ _ _ _ _ _ _ _ _ _ _ _ _ _ _ _ _ _ _ _ _ _ _ _ _ _ _ _ _ _ _ _ _ _ _ _ _ _ _ _ _ _ h428 =>
 j216 u u u u u u u u u u u u u u u u u u u u u u u u u u u u u u u u u u u u u u u u u u u u u u u u u u u u u u u u u u u u u u u u u u u u u u u u u u u u u u u u u u u u u u u u u u u u h428) fun j429 =>
 brS x335 (kFA 2 x3 fun x430 =>
 kL1 x430 h4 fun x431 =>
 kLen x431 fun x432 =>
 lp (α := Cur 92) (zN 92) (fun n526 x433 _ _ _ _ _ _ _ _ _ _ _ _ _ _ _ _ _ _ _ _ _ _ _ _ _ _ _ _ _ _ _ _ _ _ _ _ _ _ _ _ _ _ _ _ _ _ _ _ _ _ _ x485 x486 x487 _ _ _ _ _ _ _ _ _ _ _ _ _ _ _ _ _ _ _ _ _ _ _ _ _ _ _ _ _ _ _ _ _ _ _ _ _ h525 =>
 kBin .lss x487 x486 fun x527 =>
 brS x527 (kIS 8 x485 x487 fun x528 =>
 kLA 8 x528 h525 fun x529 =>
 kNew zr2 h525 fun x530 h531 =>
 kSA 8 x530 x529 h531 fun _ h533 =>
 kLA 8 x530 h533 fun x534 =>
 kCall X 111 [x433, x534] h533 fun _ h536 =>
 kBin .add x487 (qi 1) fun x537 =>
 n526 x433 u u u u u u u u u u u u u u u u u u u u u u u u u u u u u u u u u u u u u u u u u u u u u u u u u u u x485 x486 x537 u u u u u u u u u u u u u u u u u u u u u u u u u u u u u u u u u u u u u h536) (j429 u u u u u u u u u u u u u u u u u u u u u u u u u u u u u u u u u u u u u u u u u u u u u u u u u u u u u u u u u u u u u u u u u u u u u u u u u u u u u u u u u u u u u u u u u u u u h525)) k x0 u u u u u u u u u u u u u u u u u u u u u u u u u u u u u u u u u u u u u u u u u u u u u u u u u u u x431 x432 (qi 0) u u u u u u u u u u u u u u u u u u u u u u u u u u u u u u u u u u u u u h4) (kFA 0 x3 fun x538 =>
 kL1 x538 h4 fun x541 =>
 kEqI false x541 (qi 2) fun x542 =>
 jc (α := JT) (fun x543 h544 =>
 jc (α := JT) (fun x546 h547 =>
 jc (α := V → TH → PD → R) (fun x551 h552 d553 =>
 jc (α := JT) (fun x555 h556 =>
 jc (α := JT) (fun x558 h559 =>
 jc (α := JT) (fun x561 h562 =>
 jc (α := V → TH → PD → R) (fun x566 h567 d568 =>
 jc (α := JT) (fun x570 h571 =>
 kPick x542 x570 qf fun x573 =>
 dokS [h571] d568 (jc (α := Cur 92) (fun _ _ _ _ _ _ _ _ _ _ _ _ _ _ _ _ _ _ _ _ _ _ _ _ _ _ _ _ _ _ _ _ _ _ _ _ _ _ _ _ _ _ _ _ _ _ _ _ _ _ _ _ _ _ _ _ _ _ _ _ _ _ _ _ _ _ _ _ _ _ _ _ _ _ _ _ _ _ _ _ _ _ _ _ _ _ _ _ _ _ _ _ h666 =>
 j429 u u u u u u u u u u u u u u u u u u u u u u u u u u u u u u u u u u u u u u u u u u u u u u u u u u u u u u u u u u u u u u u u u u u u u u u u u u u u u u u u u u u u u u u u u u u u h666) fun j667 =>
 brS x573 (kFA 3 x3 fun x668 =>
 kLA 49 x668 h571 fun x669 =>
 kCall X 22 [x669] h571 fun x670 h671 =>
 kExt x670 0 fun _ =>
 kExt x670 1 fun x673 =>
 kCall X 109 [x0] h671 fun x674 h675 =>
 kBin .gtr x673 x674 fun x676 =>
 jc (α := Cur 92) (fun _ _ _ _ _ _ _ _ _ _ _ _ _ _ _ _ _ _ _ _ _ _ _ _ _ _ _ _ _ _ _ _ _ _ _ _ _ _ _ _ _ _ _ _ _ _ _ _ _ _ _ _ _ _ _ _ _ _ _ _ _ _ _ _ _ _ _ _ _ _ _ _ _ _ _ _ _ _ _ _ _ _ _ _ _ _ _ _ _ _ _ _ h769 =>
 j667 u u u u u u u u u u u u u u u u u u u u u u u u u u u u u u u u u u u u u u u u u u u u u u u u u u u u u u u u u u u u u u u u u u u u u u u u u u u u u u u u u u u u u u u u u u u u h769) fun j770 =>
 brS x676 (kFA 3 x3 fun x771 =>
 kLA 49 x771 h675 fun x772 =>
 kCall X 36 [x772] h675 fun x773 h774 =>
 kNilc x0 fun x775 =>
 kFA 3 x775 fun x776 =>
 kSA 49 x776 x773 h774 fun _ h778 =>
 j770 u u u u u u u u u u u u u u u u u u u u u u u u u u u u u u u u u u u u u u u u u u u u u u u u u u u u u u u u u u u u u u u u u u u u u u u u u u u u u u u u u u u u u u u u u u u u h778) (j770 u u u u u u u u u u u u u u u u u u u u u u u u u u u u u u u u u u u u u u u u u u u u u u u u u u u u u u u u u u u u u u u u u u u u u u u u u u u u u u u u u u u u u u u u u u u u h675)) (j667 u u u u u u u u u u u u u u u u u u u u u u u u u u u u u u u u u u u u u u u u u u u u u u u u u u u u u u u u u u u u u u u u u u u u u u u u u u u u u u u u u u u u u u u u u u u u h571))) fun j572 =>
 wtS x542 true (kEqI false x551 x566 fun x779 =>
 j572 x779 h567) (j572 u h567)) fun j569 =>
 wtS x542 true (kL1 x561 h562 fun x780 =>
 j569 x780 h562 d553) (j569 u h562 d553)) fun j563 =>
 wtS x542 true (kFA 52 x558 fun x781 =>
 j563 x781 h559) (j563 u h559)) fun j560 =>
 wtS x542 true (kNilc x555 fun x782 =>
 j560 x782 h556) (j560 u h556)) fun j557 =>
 wtS x542 true (j557 x0 h552) (j557 u h552)) fun j554 =>
 wtS x542 true (kL1 x546 h547 fun x783 =>
 j554 x783 h547 []) (j554 u h547 [])) fun j548 =>
 wtS x542 true (kFA 0 x543 fun x784 =>
 j548 x784 h544) (j548 u h544)) fun j545 =>
 wtS x542 true (kFA 3 x3 fun x785 =>
 j545 x785 h4) (j545 u h4)))))))
theorem p106_ok (k : Nat) : p106 k = funcS k 2 lit106 := by kernel_rfl
def p110 (_ : Nat) : CtxK → List V → TH → R := fun X => ap 2 (fun x0 x1 h2 =>
 kNew (V.cellsR x0) h2 fun x3 h4 =>
 kCall X 137 [x1, (.fn 156 [] [x3])] h4 fun x5 h6 =>
 kNot x5 fun x7 =>
 some (x7, h6))
theorem p110_ok (k : Nat) : p110 k = funcS k 2 lit110 := by kernel_rfl
def p116 (_ : Nat) : CtxK → List V → TH → R := fun _ => ap 1 (fun x0 h1 =>
 kBin .lss x0 (qb 3) fun x2 =>
 some (x2, h1))
theorem p116_ok (k : Nat) : p116 k = funcS k 1 lit116 := by kernel_rfl
def p117 (_ : Nat) : CtxK → List V → TH → R := fun _ => ap 1 (fun x0 h1 =>
 kBin .geq x0 (qb 10) fun x2 =>
 jc (α := JT) (fun x3 h4 =>
 jc (α := JT) (fun x6 h7 =>
 kPick x2 x6 qf fun x9 =>
 some (x9, h7)) fun j8 =>
 wtS x2 true (kBin .lss x3 (qb 15) fun x10 =>
 j8 x10 h4) (j8 u h4)) fun j5 =>
 wtS x2 true (j5 x0 h1) (j5 u h1))
theorem p117_ok (k : Nat) : p117 k = funcS k 1 lit117 := by kernel_rfl
def p122 (_ : Nat) : CtxK → List V → TH → R := fun _ => ap 1 (fun x0 h1 =>
 kNew (V.cellsR x0) h1 fun x2 h3 =>
 kFA 0 x2 fun x4 =>
 kL1 x4 h3 fun x5 =>
 kEqI false x5 (qb 1) fun x6 =>
 jc (α := Cur 38) (fun _ x8 _ _ x11 x12 _ _ _ _ _ _ _ _ _ _ _ _ _ _ _ _ _ _ _ _ _ _ _ _ _ _ _ _ _ _ _ _ h45 =>
 brS x12 (kFA 1 x8 fun x47 =>
 kL1 x47 h45 fun x48 =>
 kBin .lss x48 (qb 5) fun x49 =>
 jc (α := JT) (fun x50 h51 =>
 jc (α := JT) (fun x53 h54 =>
 jc (α := JT) (fun x56 h57 =>
 jc (α := JT) (fun x59 h60 =>
 jc (α := JT) (fun x62 h63 =>
 jc (α := JT) (fun x65 h66 =>
 jc (α := JT) (fun x68 h69 =>
 kPick x49 x68 qf fun x71 =>
 some (x71, h69)) fun j70 =>
 wtS x49 true (kEq' false (.agg [.int, .int, .int]) x50 x65 fun x72 =>
 j70 x72 h66) (j70 u h66)) fun j67 =>
 wtS x49 true (kB [(qb 0), (qb 0), (qi 0)] [(0, 1, x56), (1, 1, x62)] fun x73 =>
 j67 x73 h63) (j67 u h63)) fun j64 =>
 wtS x49 true (kL1 x59 h60 fun x74 =>
 j64 x74 h60) (j64 u h60)) fun j61 =>
 wtS x49 true (kFA 1 x8 fun x75 =>
 j61 x75 h57) (j61 u h57)) fun j58 =>
 wtS x49 true (kL1 x53 h54 fun x76 =>
 j58 x76 h54) (j58 u h54)) fun j55 =>
 wtS x49 true (kFA 0 x8 fun x77 =>
 j55 x77 h51) (j55 u h51)) fun j52 =>
 wtS x49 true (kLA 3 x8 h45 fun x78 =>
 j52 x78 h45) (j52 u h45)) (kEqI false x11 (qb 3) fun x79 =>
 brS x79 (kFA 1 x8 fun x80 =>
 kL1 x80 h45 fun x81 =>
 kBin .lss x81 (qb 5) fun x82 =>
 jc (α := JT) (fun x83 h84 =>
 jc (α := JT) (fun x86 h87 =>
 jc (α := JT) (fun x89 h90 =>
 kPick x82 x89 qf fun x92 =>
 jc (α := JT) (fun x93 h94 =>
 jc (α := JT) (fun x96 h97 =>
 jc (α := JT) (fun x99 h100 =>
 kPick x92 x99 qf fun x102 =>
 some (x102, h100)) fun j101 =>
 wtS x92 true (kBin .leq x96 (qi 16) fun x103 =>
 j101 x103 h97) (j101 u h97)) fun j98 =>
 wtS x92 true (kL1 x93 h94 fun x104 =>
 j98 x104 h94) (j98 u h94)) fun j95 =>
 wtS x92 true (kFA 2 x8 fun x105 =>
 j95 x105 h90) (j95 u h90)) fun j91 =>
 wtS x82 true (kBin .geq x86 (qi 0) fun x106 =>
 j91 x106 h87) (j91 u h87)) fun j88 =>
 wtS x82 true (kL1 x83 h84 fun x107 =>
 j88 x107 h84) (j88 u h84)) fun j85 =>
 wtS x82 true (kFA 2 x8 fun x108 =>
 j85 x108 h45) (j85 u h45)) (kLA 3 x8 h45 fun x109 =>
 kB [(qb 0), (qb 0), (qi 0)] [(0, 1, (qb 4))] fun x110 =>
 kEq' false (.agg [.int, .int, .int]) x109 x110 fun x111 =>
 some (x111, h45)))) fun j46 =>
 brS x6 (j46 u x2 u u x5 x6 u u u u u u u u u u u u u u u u u u u u u u u u u u u u u u u u h3) (kEqI false x5 (qb 2) fun x112 =>
 j46 u x2 u u x5 x112 u u u u u u u u u u u u u u u u u u u u u u u u u u u u u u u u h3))
theorem p122_ok (k : Nat) : p122 k = funcS k 1 lit122 := by kernel_rfl
def p127 (k : Nat) : CtxK → List V → TH → R := fun X => ap 2 (fun x0 x1 h2 =>
 kNew (V.cellsR x0) h2 fun x3 h4 =>
 kFA 1 x3 fun x5 =>
 kLA 15 x5 h4 fun x6 =>
 lp (α := Cur 23) (zN 23) (fun n31 _ x8 _ _ _ x12 _ _ _ x16 x17 _ _ _ _ _ _ _ _ _ _ _ _ h30 =>
 kBin .lss x17 (qi 5) fun x32 =>
 brS x32 (kP (indexE (some (5, 3, true)) x16 x17) fun x33 =>
 kNew [qf, (qi 0), (qb 0)] h30 fun x34 h35 =>
 kSA 3 x34 x33 h35 fun _ h37 =>
 kLA 3 x34 h37 fun x38 =>
 kCv X x8 [x38] h37 fun x39 h40 =>
 jc (α := Cur 23) (fun _ x42 _ _ _ x46 _ _ _ x50 x51 _ _ _ _ _ _ _ _ _ _ _ _ h64 =>
 kBin .add x51 (qi 1) fun x66 =>
 n31 u x42 u u u x46 u u u x50 x66 u u u u u u u u u u u u h64) fun j65 =>
 brS x39 (kBS 1 [(qi 0)] 1 [(0, 1, x17)] h40 fun x67 h68 =>
 kAp 1 8 x12 x67 h68 fun x69 h70 =>
 j65 u x8 u u u x69 u u u x16 x17 u u u u u u u u u u u u h70) (j65 u x8 u u u x12 u u u x16 x17 u u u u u u u u u u u u h40)) (some (x12, h30))) k u x1 u u u .nils u u u x6 (qi 0) u u u u u u u u u u u u h4)
theorem p127_ok (k : Nat) : p127 k = funcS k 2 lit127 := by kernel_rfl
def p140 (_ : Nat) : CtxK → List V → TH → R := fun _ => ap 2 (fun x0 x1 h2 =>
 kNew (V.cellsR x0) h2 fun x3 h4 =>
 kNew (V.cellsR x1) h4 fun x5 h6 =>
 kFA 1 x3 fun x7 =>
 kL1 x7 h6 fun x8 =>
 kFA 1 x5 fun x9 =>
 kL1 x9 h6 fun x10 =>
 kEqI true x8 x10 fun x11 =>
 brS x11 (kFA 1 x3 fun x12 =>
 kL1 x12 h6 fun x13 =>
 kFA 1 x5 fun x14 =>
 kL1 x14 h6 fun x15 =>
 kBin .gtr x13 x15 fun x16 =>
 some (x16, h6)) (kFA 2 x3 fun x17 =>
 kL1 x17 h6 fun x18 =>
 kFA 2 x5 fun x19 =>
 kL1 x19 h6 fun x20 =>
 kEqI true x18 x20 fun x21 =>
 brS x21 (kFA 2 x3 fun x22 =>
 kL1 x22 h6 fun x23 =>
 kFA 2 x5 fun x24 =>
 kL1 x24 h6 fun x25 =>
 kBin .gtr x23 x25 fun x26 =>
 some (x26, h6)) (kFA 3 x3 fun x27 =>
 kL1 x27 h6 fun x28 =>
 kFA 3 x5 fun x29 =>
 kL1 x29 h6 fun x30 =>
 kEqI true x28 x30 fun x31 =>
 brS x31 (kFA 3 x3 fun x32 =>
 kL1 x32 h6 fun x33 =>
 kFA 3 x5 fun x34 =>
 kL1 x34 h6 fun x35 =>
 kBin .gtr x33 x35 fun x36 =>
 some (x36, h6)) (kFA 0 x3 fun x37 =>
 kL1 x37 h6 fun x38 =>
 kFA 0 x5 fun x39 =>
 kL1 x39 h6 fun x40 =>
 kBin .lss x38 x40 fun x41 =>
 some (x41, h6)))))
theorem p140_ok (k : Nat) : p140 k = funcS k 2 lit140 := by kernel_rfl
def p141 (k : Nat) : CtxK → List V → TH → R := fun _ => ap 1 (fun x0 h1 =>
 kNew (V.cellsR x0) h1 fun x2 h3 =>
 kFA 1 x2 fun x4 =>
 kLA 15 x4 h3 fun x5 =>
 lp (α := Cur 32) (zN 32) (fun n39 _ x7 _ _ _ _ x12 x13 _ _ _ _ _ _ _ _ _ _ _ _ _ _ _ _ _ _ _ _ _ _ _ _ h38 =>
 kBin .lss x13 (qi 5) fun x40 =>
 brS x40 (kP (indexE (some (5, 3, true)) x12 x13) fun x41 =>
 kNew [qf, (qi 0), (qb 0)] h38 fun x42 h43 =>
 kSA 3 x42 x41 h43 fun _ h45 =>
 kFA 1 x42 fun x46 =>
 kL1 x46 h45 fun x47 =>
 kBin .lss x47 (qi 0) fun x48 =>
 jc (α := JT) (fun x49 h50 =>
 jc (α := JT) (fun x52 h53 =>
 jc (α := JT) (fun x55 h56 =>
 kPick x48 qt x55 fun x58 =>
 jc (α := JT) (fun x59 h60 =>
 jc (α := JT) (fun x62 h63 =>
 jc (α := JT) (fun x65 h66 =>
 kPick x58 qt x65 fun x68 =>
 brS x68 (some (qf, h66)) (kBin .add x13 (qi 1) fun x69 =>
 n39 u x7 u u u u x12 x69 u u u u u u u u u u u u u u u u u u u u u u u u h66)) fun j67 =>
 wtS x58 false (kBin .geq x62 (qb 8) fun x70 =>
 j67 x70 h63) (j67 u h63)) fun j64 =>
 wtS x58 false (kL1 x59 h60 fun x71 =>
 j64 x71 h60) (j64 u h60)) fun j61 =>
 wtS x58 false (kFA 2 x42 fun x72 =>
 j61 x72 h56) (j61 u h56)) fun j57 =>
 wtS x48 false (kBin .gtr x52 (qi 16) fun x73 =>
 j57 x73 h53) (j57 u h53)) fun j54 =>
 wtS x48 false (kL1 x49 h50 fun x74 =>
 j54 x74 h50) (j54 u h50)) fun j51 =>
 wtS x48 false (kFA 1 x42 fun x75 =>
 j51 x75 h45) (j51 u h45)) (kFA 0 x7 fun x76 =>
 kL1 x76 h38 fun x77 =>
 kBin .geq x77 (qw 1) fun x78 =>
 jc (α := JT) (fun x79 h80 =>
 jc (α := JT) (fun x82 h83 =>
 jc (α := JT) (fun x85 h86 =>
 kPick x78 x85 qf fun x88 =>
 some (x88, h86)) fun j87 =>
 wtS x78 true (kBin .leq x82 (qw 60) fun x89 =>
 j87 x89 h83) (j87 u h83)) fun j84 =>
 wtS x78 true (kL1 x79 h80 fun x90 =>
 j84 x90 h80) (j84 u h80)) fun j81 =>
 wtS x78 true (kFA 0 x7 fun x91 =>
 j81 x91 h38) (j81 u h38))) k u x2 u u u u x5 (qi 0) u u u u u u u u u u u u u u u u u u u u u u u u h3)
theorem p141_ok (k : Nat) : p141 k = funcS k 1 lit141 := by kernel_rfl
def p156 (_ : Nat) : CtxK → List V → TH → R := fun _ => ap 2 (fun x0 x1 h2 =>
 kIA 5 1 x1 x0 fun x3 =>
 kL1 x3 h2 fun x4 =>
 kNot x4 fun x5 =>
 some (x5, h2))
theorem p156_ok (k : Nat) : p156 k = funcS k 2 lit156 := by kernel_rfl
def p166 (_ : Nat) : CtxK → List V → TH → R := fun X => ap 2 (fun x0 x1 h2 =>
 kNew (V.cellsR x0) h2 fun x3 h4 =>
 kNew zr5 h4 fun x5 h6 =>
 kLA 49 x3 h6 fun x7 =>
 kCall X 50 [x7] h6 fun x8 h9 =>
 kNot x8 fun x10 =>
 jc (α := JT) (fun x11 h12 =>
 jc (α := JT) (fun x14 h15 =>
 jc (α := JT) (fun x17 h18 =>
 jc (α := JT) (fun x20 h21 =>
 kPick x10 qt x20 fun x23 =>
 brS x23 (kB zr5 [] fun x24 =>
 kSA 39 x5 x24 h21 fun _ h26 =>
 rsS [.cell 4 true 39, .tmp 5] [x0, x1, x3, u, x5, qf, x7, x8, x10, x10, x11, x14, x17, x20, x23, x24, u, u, u, u, u, u] h26) (kLA 49 x3 h21 fun x29 =>
 kLA 49 x3 h21 fun x32 =>
 kCall X 190 [x32, x1] h21 fun x33 h34 =>
 kCall X 52 [x29, x33] h34 fun x35 h36 =>
 kP (fieldE true 1 39 x35) fun x37 =>
 kSA 39 x5 x37 h36 fun _ h39 =>
 dokS [h21, h34, h36, h39] ((fun h27 => kLA 49 x3 h27 fun x28 =>
 some (x28, h27), x29, 0, 1) :: []) (rsS [.cell 4 true 39, .tmp 5] [x0, x1, x3, u, x5, qt, x7, x8, x10, x10, x11, x14, x17, x20, x23, u, x29, x32, x1, x33, x35, x37] h39))) fun j22 =>
 wtS x10 false (kBin .lss x17 (qi 0) fun x40 =>
 j22 x40 h18) (j22 u h18)) fun j19 =>
 wtS x10 false (kCall X 190 [x11, x14] h15 fun x41 h42 =>
 j19 x41 h42) (j19 u h15)) fun j16 =>
 wtS x10 false (j16 x1 h12) (j16 u h12)) fun j13 =>
 wtS x10 false (kLA 49 x3 h9 fun x43 =>
 j13 x43 h9) (j13 u h9))
theorem p166_ok (k : Nat) : p166 k = funcS k 2 lit166 := by kernel_rfl
def p167 (_ : Nat) : CtxK → List V → TH → R := fun X => ap 2 (fun x0 x1 h2 =>
 kNew (V.cellsR x1) h2 fun x3 h4 =>
 kFA 4 x3 fun x5 =>
 kL1 x5 h4 fun x6 =>
 kConv .i64 x6 fun x7 =>
 kFA 5 x3 fun x8 =>
 kL1 x8 h4 fun x9 =>
 kP (lenV true x9) fun x10 =>
 kBin .add x7 x10 fun x11 =>
 kBin .gtr x11 (qi 16) fun x12 =>
 brS x12 (some ((qb 2), h4)) (kNilc x0 fun x13 =>
 kFA 0 x13 fun x14 =>
 kFA 1 x14 fun x15 =>
 kL1 x15 h4 fun x16 =>
 kCall X 191 [x16, x11] h4 fun x17 h18 =>
 kNilc x0 fun x19 =>
 kFA 0 x19 fun x20 =>
 kFA 0 x20 fun x21 =>
 kS1 x21 qt h18 fun _ h23 =>
 kFA 4 x3 fun x24 =>
 kL1 x24 h23 fun x27 =>
 kP (subsE x17 none (some x27)) fun x28 =>
 kFA 5 x3 fun x29 =>
 kL1 x29 h23 fun x32 =>
 kBin .add x28 x32 fun x33 =>
 kP (subsE x17 (some x11) none) fun x34 =>
 kBin .add x33 x34 fun x35 =>
 kNilc x0 fun x36 =>
 kFA 0 x36 fun x37 =>
 kFA 1 x37 fun x38 =>
 kS1 x38 x35 h23 fun _ h40 =>
 dokS [h23, h40] [] (some ((qb 0), h40))))
theorem p167_ok (k : Nat) : p167 k = funcS k 2 lit167 := by kernel_rfl
def p172 (_ : Nat) : CtxK → List V → TH → R := fun X => ap 2 (fun x0 x1 h2 =>
 kNew (V.cellsR x0) h2 fun x3 h4 =>
 kNew (V.cellsR x1) h4 fun x5 h6 =>
 kFA 1 x5 fun x7 =>
 kL1 x7 h6 fun x8 =>
 kLen x8 fun x9 =>
 kBin .geq x9 (qi 2) fun x10 =>
 jc (α := JT) (fun x11 h12 =>
 jc (α := JT) (fun x14 h15 =>
 jc (α := JT) (fun x17 h18 =>
 jc (α := JT) (fun x20 h21 =>
 jc (α := JT) (fun x23 h24 =>
 kPick x10 x23 qf fun x26 =>
 jc (α := JT) (fun x27 h28 =>
 jc (α := JT) (fun x30 h31 =>
 jc (α := JT) (fun x33 h34 =>
 jc (α := JT) (fun x36 h37 =>
 jc (α := JT) (fun x39 h40 =>
 jc (α := JT) (fun x42 h43 =>
 kPick x26 x42 qf fun x45 =>
 some (x45, h43)) fun j44 =>
 wtS x26 true (kNot x39 fun x46 =>
 j44 x46 h40) (j44 u h40)) fun j41 =>
 wtS x26 true (kCall X 137 [x30, x36] h37 fun x47 h48 =>
 j41 x47 h48) (j41 u h37)) fun j38 =>
 wtS x26 true (j38 (.fn 193 [x33] []) h34) (j38 u h34)) fun j35 =>
 wtS x26 true (kLA 2 x3 h31 fun x49 =>
 j35 x49 h31) (j35 u h31)) fun j32 =>
 wtS x26 true (kL1 x27 h28 fun x50 =>
 j32 x50 h28) (j32 u h28)) fun j29 =>
 wtS x26 true (kFA 1 x5 fun x51 =>
 j29 x51 h24) (j29 u h24)) fun j25 =>
 wtS x10 true (kBin .geq x14 x20 fun x52 =>
 j25 x52 h21) (j25 u h21)) fun j22 =>
 wtS x10 true (kL1 x17 h18 fun x53 =>
 j22 x53 h18) (j22 u h18)) fun j19 =>
 wtS x10 true (kFA 1 x3 fun x54 =>
 j19 x54 h15) (j19 u h15)) fun j16 =>
 wtS x10 true (kL1 x11 h12 fun x55 =>
 j16 x55 h12) (j16 u h12)) fun j13 =>
 wtS x10 true (kFA 0 x5 fun x56 =>
 j13 x56 h6) (j13 u h6))
theorem p172_ok (k : Nat) : p172 k = funcS k 2 lit172 := by kernel_rfl
def p186 (k : Nat) : CtxK → List V → TH → R := fun X => ap 2 (fun x0 x1 h2 =>
 kNew (V.cellsR x0) h2 fun x3 h4 =>
 kNew zr0 h4 fun x5 h6 =>
 kLen x1 fun x7 =>
 lp (α := Cur 29) (zN 29) (fun n38 x8 x9 x10 x11 x12 _ x14 x15 x16 x17 x18 x19 x20 _ x22 x23 x24 x25 x26 x27 x28 x29 x30 x31 x32 x33 x34 x35 x36 h37 =>
 kBin .lss x20 x19 fun x39 =>
 brS x39 (kIS 8 x18 x20 fun x40 =>
 kLA 8 x40 h37 fun x41 =>
 kNew zr2 h37 fun x42 h43 =>
 kSA 8 x42 x41 h43 fun _ h45 =>
 kLA 49 x10 h45 fun x46 =>
 kLA 8 x42 h45 fun x47 =>
 kCall X 157 [x46, x47] h45 fun x48 h49 =>
 kExt x48 0 fun x50 =>
 kExt x48 1 fun x51 =>
 kNew zr0 h49 fun x52 h53 =>
 kSA 49 x52 x50 h53 fun _ h55 =>
 kEqI true x51 (qi 0) fun x56 =>
 brS x56 (kB zr0 [] fun x57 =>
 kSA 49 x12 x57 h55 fun _ h59 =>
 rsS [.cell 4 true 49, .tmp 5] [x8, x9, x10, x11, x12, x51, x14, x42, x52, x51, x18, x19, x20, x39, x40, x41, x48, x46, x47, x48, x50, x51, x51, x56, x57, x51, x34, x35, x36] h59) (kLA 49 x52 h55 fun x60 =>
 kSA 49 x10 x60 h55 fun _ h62 =>
 kBin .add x20 (qi 1) fun x63 =>
 n38 u u x10 u x12 u u u u u x18 x19 x63 u u u u u u u u u u u u u u u u h62)) (kLA 49 x10 h37 fun x64 =>
 kSA 49 x12 x64 h37 fun _ h66 =>
 rsS [.cell 4 true 49, .tmp 5] [x8, x9, x10, x11, x12, (qi 0), x14, x15, x16, x17, x18, x19, x20, x39, x22, x23, x24, x25, x26, x27, x28, x29, x30, x31, x32, x33, x34, x35, x64] h66)) k u u x3 u x5 u u u u u x1 x7 (qi 0) u u u u u u u u u u u u u u u u h6)
theorem p186_ok (k : Nat) : p186 k = funcS k 2 lit186 := by kernel_rfl
def p187 (_ : Nat) : CtxK → List V → TH → R := fun X => ap 2 (fun x0 x1 h2 =>
 kNew (V.cellsR x0) h2 fun x3 h4 =>
 kNew zr0 h4 fun x5 h6 =>
 kLA 49 x3 h6 fun x7 =>
 kCall X 50 [x7] h6 fun x8 h9 =>
 kNot x8 fun x10 =>
 brS x10 (kB zr0 [] fun x11 =>
 kSA 49 x5 x11 h9 fun _ h13 =>
 rsS [.cell 4 true 49, .tmp 5] [x0, x1, x3, u, x5, (qi 10), x10, x7, x8, x10, x11, u, u, u, u, u, u, u, u, u, u, u, u, u, u, u, u, u, u] h13) (kFA 40 x3 fun x14 =>
 kFA 1 x14 fun x15 =>
 kL1 x15 h9 fun x16 =>
 kBin .lss x1 x16 fun x17 =>
 brS x17 (kB zr0 [] fun x18 =>
 kSA 49 x5 x18 h9 fun _ h20 =>
 rsS [.cell 4 true 49, .tmp 5] [x0, x1, x3, u, x5, (qi 80), x10, x7, x8, x10, u, x17, x1, x14, x15, x16, x17, x18, u, u, u, u, u, u, u, u, u, u, u] h20) (kLA 49 x3 h9 fun x21 =>
 kCall X 190 [x21, x1] h9 fun x22 h23 =>
 kBin .lss x22 (qi 0) fun x24 =>
 brS x24 (kB zr0 [] fun x25 =>
 kSA 49 x5 x25 h23 fun _ h27 =>
 rsS [.cell 4 true 49, .tmp 5] [x0, x1, x3, u, x5, (qi 141), x10, x7, x8, x10, u, x17, x1, x14, x15, x16, x17, u, x24, x21, x1, x22, x24, x25, u, u, u, u, u] h27) (kLA 49 x3 h23 fun x30 =>
 kLA 49 x3 h23 fun x33 =>
 kCall X 190 [x33, x1] h23 fun x34 h35 =>
 kCall X 52 [x30, x34] h35 fun x36 h37 =>
 kSA 49 x5 x36 h37 fun _ h39 =>
 dokS [h23, h35, h37, h39] ((fun h28 => kLA 49 x3 h28 fun x29 =>
 some (x29, h28), x30, 0, 1) :: []) (rsS [.cell 4 true 49, .tmp 5] [x0, x1, x3, u, x5, (qi 0), x10, x7, x8, x10, u, x17, x1, x14, x15, x16, x17, u, x24, x21, x1, x22, x24, u, x30, x33, x1, x34, x36] h39)))))
theorem p187_ok (k : Nat) : p187 k = funcS k 2 lit187 := by kernel_rfl
def p194 (k : Nat) : CtxK → List V → TH → R := fun X => ap 2 (fun x0 x1 h2 =>
 kLen x0 fun x3 =>
 lp (α := Cur 19) (zN 19) (fun n24 x4 x5 _ _ _ _ _ x11 x12 _ _ _ _ _ _ _ _ _ _ h23 =>
 kBin .lss x12 x11 fun x25 =>
 brS x25 (kIS 2 x4 x12 fun x26 =>
 kLA 2 x26 h23 fun x27 =>
 kCv X x5 [x27] h23 fun x28 h29 =>
 brS x28 (some (x12, h29)) (kBin .add x12 (qi 1) fun x30 =>
 n24 x4 x5 u u u u u x11 x30 u u u u u u u u u u h29)) (some ((.int .i64 (-1)), h23))) k x0 x1 u u u u u x3 (qi 0) u u u u u u u u u u h2)
theorem p194_ok (k : Nat) : p194 k = funcS k 2 lit194 := by kernel_rfl
def p196 (k : Nat) : CtxK → List V → TH → R := fun X => ap 2 (fun x0 x1 h2 =>
 kNilc x0 fun x3 =>
 kFA 17 x3 fun x4 =>
 kL1 x4 h2 fun x5 =>
 kLen x5 fun x6 =>
 lp (α := Cur 44) (zN 44) (fun n52 x7 x8 _ _ _ x12 _ _ _ _ _ x18 x19 x20 _ _ _ _ _ _ _ _ _ _ _ _ _ _ _ _ _ _ _ _ _ _ _ _ _ _ _ _ _ _ h51 =>
 kBin .lss x20 x19 fun x53 =>
 brS x53 (kIS 1 x18 x20 fun x54 =>
 kL1 x54 h51 fun x55 =>
 kNilc x7 fun x56 =>
 kFA 16 x56 fun x57 =>
 kL1 x57 h51 fun x60 =>
 kNilc x7 fun x61 =>
 kFA 0 x61 fun x62 =>
 kFA 1 x62 fun x63 =>
 kIA 5 3 x63 x55 fun x64 =>
 kFA 1 x64 fun x65 =>
 kL1 x65 h51 fun x68 =>
 kCall X 201 [x60, x55, x8, x68] h51 fun x69 h70 =>
 kBS 1 [(qi 0)] 1 [(0, 1, x69)] h70 fun x71 h72 =>
 kAp 1 8 x12 x71 h72 fun x73 h74 =>
 dokS [h51, h72, h74] [] (kBin .add x20 (qi 1) fun x75 =>
 n52 x7 x8 u u u x73 u u u u u x18 x19 x75 u u u u u u u u u u u u u u u u u u u u u u u u u u u u u u h74)) (kNilc x7 fun x76 =>
 kFA 17 x76 fun x77 =>
 kL1 x77 h51 fun x80 =>
 kCall X 202 [x12] h51 fun x81 h82 =>
 kIS 1 x80 x81 fun x83 =>
 kL1 x83 h82 fun x86 =>
 dokS [h51, h82] ((fun h78 => kL1 x77 h78 fun x79 =>
 some (x79, h78), x80, 0, 1) :: []) (some (x86, h82)))) k x0 x1 u u u .nils u u u u u x5 x6 (qi 0) u u u u u u u u u u u u u u u u u u u u u u u u u u u u u u h2)
theorem p196_ok (k : Nat) : p196 k = funcS k 2 lit196 := by kernel_rfl
end
end Go.PE
