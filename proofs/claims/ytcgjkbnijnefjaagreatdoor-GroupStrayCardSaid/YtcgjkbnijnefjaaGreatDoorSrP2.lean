/- The same functions with names for their slots (part 2 of 4), printed by a program of our own: each is what the evaluator's law says of the literal. -/
import Derived.Test.YtcgjkbnijnefjaaGreatDoorSrL3
import Derived.KernelRfl
namespace Go.PE
set_option maxRecDepth 100000
noncomputable section
def p10 (k : Nat) : CtxK → List V → TH → R := fun X => ap 2 (fun x0 x1 h2 =>
 kNew (V.cellsR x1) h2 fun x3 h4 =>
 kCall X 29 [] h4 fun x5 h6 =>
 kBin .rem x0 (qb 4) fun x7 =>
 kB [.nilptr, (qb 0), .nilptr, .nilptr, .nilptr, .nilptr, .nilptr, .nils, .nils] [(0, 1, x5), (1, 1, x7)] fun x8 =>
 kNew (V.cellsR x8) h6 fun x9 h10 =>
 lp (α := Cur 50) (zN 50) (fun n62 _ _ _ x14 _ x16 x17 _ _ _ _ _ _ _ _ _ _ _ _ _ _ _ _ _ _ _ _ _ _ _ _ _ _ _ _ _ _ _ _ _ _ _ _ _ _ _ _ _ _ _ h61 =>
 kBin .lss x17 (qi 5) fun x63 =>
 brS x63 (kNilc x16 fun x64 =>
 kFA 1 x64 fun x65 =>
 kL1 x65 h61 fun x68 =>
 kIA 5 49 x14 x17 fun x69 =>
 kLA 49 x69 h61 fun x72 =>
 kNilc x16 fun x73 =>
 kFA 2 x73 fun x74 =>
 kCall X 24 [x17, x68, x72] h61 fun x75 h76 =>
 kIA 5 1 x74 x17 fun x77 =>
 kS1 x77 x75 h76 fun _ h79 =>
 dokS [h61, h76, h79] [] (kNilc x16 fun x80 =>
 kFA 7 x80 fun x81 =>
 kL1 x81 h79 fun x84 =>
 kNilc x16 fun x85 =>
 kFA 2 x85 fun x86 =>
 kIA 5 1 x86 x17 fun x87 =>
 kL1 x87 h79 fun x90 =>
 kNilc x16 fun x91 =>
 kFA 0 x91 fun x92 =>
 kL1 x92 h79 fun x95 =>
 kCall X 25 [x90, x95] h79 fun x96 h97 =>
 kAp 131 1400 x84 x96 h97 fun x98 h99 =>
 kNilc x16 fun x100 =>
 kFA 7 x100 fun x101 =>
 kS1 x101 x98 h99 fun _ h103 =>
 dokS [h79, h97, h99, h103] ((fun h82 => kL1 x81 h82 fun x83 =>
 some (x83, h82), x84, 0, 1) :: []) (kBin .add x17 (qi 1) fun x104 =>
 n62 u u u x14 u x16 x104 u u u u u u u u u u u u u u u u u u u u u u u u u u u u u u u u u u u u u u u u u u u h103))) (some (x16, h61))) k u u u x3 u x9 (qi 0) u u u u u u u u u u u u u u u u u u u u u u u u u u u u u u u u u u u u u u u u u u u h10)
theorem p10_ok (k : Nat) : p10 k = funcS k 2 lit10 := by kernel_rfl
def p15 (_ : Nat) : CtxK → List V → TH → R := fun X => ap 2 (fun x0 x1 h2 =>
 kNew (V.cellsR x0) h2 fun x3 h4 =>
 kNew (V.cellsR x1) h4 fun x5 h6 =>
 kFA 0 x3 fun x7 =>
 kL1 x7 h6 fun x8 =>
 kFA 0 x5 fun x9 =>
 kL1 x9 h6 fun x10 =>
 kEqI false x8 x10 fun x11 =>
 jc (α := JT) (fun x12 h13 =>
 jc (α := JT) (fun x15 h16 =>
 jc (α := JT) (fun x18 h19 =>
 jc (α := JT) (fun x21 h22 =>
 jc (α := JT) (fun x24 h25 =>
 kPick x11 x24 qf fun x27 =>
 jc (α := JT) (fun x28 h29 =>
 jc (α := JT) (fun x31 h32 =>
 jc (α := JT) (fun x34 h35 =>
 jc (α := JT) (fun x37 h38 =>
 jc (α := JT) (fun x40 h41 =>
 kPick x27 x40 qf fun x43 =>
 jc (α := JT) (fun x44 h45 =>
 jc (α := JT) (fun x47 h48 =>
 jc (α := JT) (fun x50 h51 =>
 jc (α := JT) (fun x53 h54 =>
 jc (α := JT) (fun x56 h57 =>
 kPick x43 x56 qf fun x59 =>
 some (x59, h57)) fun j58 =>
 wtS x43 true (kCall X 40 [x47, x53] h54 fun x60 h61 =>
 j58 x60 h61) (j58 u h54)) fun j55 =>
 wtS x43 true (kL1 x50 h51 fun x62 =>
 j55 x62 h51) (j55 u h51)) fun j52 =>
 wtS x43 true (kFA 48 x5 fun x63 =>
 j52 x63 h48) (j52 u h48)) fun j49 =>
 wtS x43 true (kL1 x44 h45 fun x64 =>
 j49 x64 h45) (j49 u h45)) fun j46 =>
 wtS x43 true (kFA 48 x3 fun x65 =>
 j46 x65 h41) (j46 u h41)) fun j42 =>
 wtS x27 true (kEq' false (.agg [.int, .int, .int, .int, .int, .int, .int, .str]) x31 x37 fun x66 =>
 j42 x66 h38) (j42 u h38)) fun j39 =>
 wtS x27 true (kLA 8 x34 h35 fun x67 =>
 j39 x67 h35) (j39 u h35)) fun j36 =>
 wtS x27 true (kFA 40 x5 fun x68 =>
 j36 x68 h32) (j36 u h32)) fun j33 =>
 wtS x27 true (kLA 8 x28 h29 fun x69 =>
 j33 x69 h29) (j33 u h29)) fun j30 =>
 wtS x27 true (kFA 40 x3 fun x70 =>
 j30 x70 h25) (j30 u h25)) fun j26 =>
 wtS x11 true (kEq' false (.agg [.bool, .str, .str, .str, .str, .bool, .str, .str, .str, .str, .bool, .str, .str, .str, .str, .bool, .str, .str, .str, .str, .bool, .str, .str, .str, .str, .bool, .str, .str, .str, .str, .int, .int, .str, .int, .int, .str, .int, .int, .str]) x15 x21 fun x71 =>
 j26 x71 h22) (j26 u h22)) fun j23 =>
 wtS x11 true (kLA 39 x18 h19 fun x72 =>
 j23 x72 h19) (j23 u h19)) fun j20 =>
 wtS x11 true (kFA 1 x5 fun x73 =>
 j20 x73 h16) (j20 u h16)) fun j17 =>
 wtS x11 true (kLA 39 x12 h13 fun x74 =>
 j17 x74 h13) (j17 u h13)) fun j14 =>
 wtS x11 true (kFA 1 x3 fun x75 =>
 j14 x75 h6) (j14 u h6))
theorem p15_ok (k : Nat) : p15 k = funcS k 2 lit15 := by kernel_rfl
def p26 (_ : Nat) : CtxK → List V → TH → R := fun _ => ap 1 (fun x0 h1 =>
 kNilc x0 fun x2 =>
 kFA 1 x2 fun x3 =>
 kL1 x3 h1 fun x4 =>
 some (x4, h1))
theorem p26_ok (k : Nat) : p26 k = funcS k 1 lit26 := by kernel_rfl
def p33 (_ : Nat) : CtxK → List V → TH → R := fun _ => ap 1 (fun x0 h1 =>
 kNew (V.cellsR x0) h1 fun x2 h3 =>
 kFA 0 x2 fun x4 =>
 kL1 x4 h3 fun x5 =>
 kBin .lss x5 (qb 1) fun x6 =>
 jc (α := JT) (fun x7 h8 =>
 jc (α := JT) (fun x10 h11 =>
 jc (α := JT) (fun x13 h14 =>
 kPick x6 qt x13 fun x16 =>
 jc (α := JT) (fun x17 h18 =>
 jc (α := JT) (fun x20 h21 =>
 jc (α := JT) (fun x23 h24 =>
 kPick x16 qt x23 fun x26 =>
 jc (α := JT) (fun x27 h28 =>
 jc (α := JT) (fun x30 h31 =>
 jc (α := JT) (fun x33 h34 =>
 kPick x26 qt x33 fun x36 =>
 jc (α := JT) (fun x37 h38 =>
 jc (α := JT) (fun x40 h41 =>
 jc (α := JT) (fun x43 h44 =>
 jc (α := JT) (fun x46 h47 =>
 kPick x36 qt x46 fun x49 =>
 brS x49 (some (qf, h47)) (kFA 2 x2 fun x50 =>
 kL1 x50 h47 fun x51 =>
 kEqI false x51 (qb 1) fun x52 =>
 jc (α := Cur 58) (fun _ x54 _ _ _ _ _ _ _ _ _ _ _ _ _ _ _ _ _ _ _ _ _ _ _ _ _ _ x81 x82 _ _ _ _ _ _ _ _ _ _ _ _ _ _ _ _ _ _ _ _ _ _ _ _ _ _ _ _ h111 =>
 brS x82 (some (qt, h111)) (kEqI false x81 (qb 2) fun x113 =>
 brS x113 (kFA 5 x54 fun x114 =>
 kL1 x114 h111 fun x115 =>
 kEq' false (.leaf .str) x115 qs fun x116 =>
 some (x116, h111)) (kFA 2 x54 fun x117 =>
 kL1 x117 h111 fun x118 =>
 kEqI false x118 (qb 4) fun x119 =>
 jc (α := JT) (fun x120 h121 =>
 jc (α := JT) (fun x123 h124 =>
 jc (α := JT) (fun x126 h127 =>
 kPick x119 qt x126 fun x129 =>
 jc (α := JT) (fun x130 h131 =>
 jc (α := JT) (fun x133 h134 =>
 jc (α := JT) (fun x136 h137 =>
 jc (α := JT) (fun x139 h140 =>
 jc (α := JT) (fun x142 h143 =>
 jc (α := JT) (fun x145 h146 =>
 jc (α := JT) (fun x148 h149 =>
 jc (α := JT) (fun x151 h152 =>
 jc (α := JT) (fun x154 h155 =>
 jc (α := JT) (fun x157 h158 =>
 jc (α := JT) (fun x160 h161 =>
 kPick x129 x160 qf fun x163 =>
 some (x163, h161)) fun j162 =>
 wtS x129 true (kEq' false (.agg [.int, .int, .int, .int, .int, .str]) x130 x157 fun x164 =>
 j162 x164 h158) (j162 u h158)) fun j159 =>
 wtS x129 true (kB [(qb 0), (qw 0), (qb 0), (qb 0), (qb 0), qs] [(0, 1, x136), (1, 1, x142), (2, 1, x148), (3, 1, x154)] fun x165 =>
 j159 x165 h155) (j159 u h155)) fun j156 =>
 wtS x129 true (kL1 x151 h152 fun x166 =>
 j156 x166 h152) (j156 u h152)) fun j153 =>
 wtS x129 true (kFA 3 x54 fun x167 =>
 j153 x167 h149) (j153 u h149)) fun j150 =>
 wtS x129 true (kL1 x145 h146 fun x168 =>
 j150 x168 h146) (j150 u h146)) fun j147 =>
 wtS x129 true (kFA 2 x54 fun x169 =>
 j147 x169 h143) (j147 u h143)) fun j144 =>
 wtS x129 true (kL1 x139 h140 fun x170 =>
 j144 x170 h140) (j144 u h140)) fun j141 =>
 wtS x129 true (kFA 1 x54 fun x171 =>
 j141 x171 h137) (j141 u h137)) fun j138 =>
 wtS x129 true (kL1 x133 h134 fun x172 =>
 j138 x172 h134) (j138 u h134)) fun j135 =>
 wtS x129 true (kFA 0 x54 fun x173 =>
 j135 x173 h131) (j135 u h131)) fun j132 =>
 wtS x129 true (kLA 6 x54 h127 fun x174 =>
 j132 x174 h127) (j132 u h127)) fun j128 =>
 wtS x119 false (kEqI false x123 (qb 5) fun x175 =>
 j128 x175 h124) (j128 u h124)) fun j125 =>
 wtS x119 false (kL1 x120 h121 fun x176 =>
 j125 x176 h121) (j125 u h121)) fun j122 =>
 wtS x119 false (kFA 2 x54 fun x177 =>
 j122 x177 h111) (j122 u h111)))) fun j112 =>
 brS x52 (j112 u x2 u u u u u u u u u u u u u u u u u u u u u u u u u u x51 x52 u u u u u u u u u u u u u u u u u u u u u u u u u u u u h47) (kEqI false x51 (qb 3) fun x178 =>
 j112 u x2 u u u u u u u u u u u u u u u u u u u u u u u u u u x51 x178 u u u u u u u u u u u u u u u u u u u u u u u u u u u u h47))) fun j48 =>
 wtS x36 false (kBin .gtr x43 (qi 16) fun x179 =>
 j48 x179 h44) (j48 u h44)) fun j45 =>
 wtS x36 false (kP (lenV true x40) fun x180 =>
 j45 x180 h41) (j45 u h41)) fun j42 =>
 wtS x36 false (kL1 x37 h38 fun x181 =>
 j42 x181 h38) (j42 u h38)) fun j39 =>
 wtS x36 false (kFA 5 x2 fun x182 =>
 j39 x182 h34) (j39 u h34)) fun j35 =>
 wtS x26 false (kBin .geq x30 (qb 6) fun x183 =>
 j35 x183 h31) (j35 u h31)) fun j32 =>
 wtS x26 false (kL1 x27 h28 fun x184 =>
 j32 x184 h28) (j32 u h28)) fun j29 =>
 wtS x26 false (kFA 3 x2 fun x185 =>
 j29 x185 h24) (j29 u h24)) fun j25 =>
 wtS x16 false (kEqI false x20 (qw 0) fun x186 =>
 j25 x186 h21) (j25 u h21)) fun j22 =>
 wtS x16 false (kL1 x17 h18 fun x187 =>
 j22 x187 h18) (j22 u h18)) fun j19 =>
 wtS x16 false (kFA 1 x2 fun x188 =>
 j19 x188 h14) (j19 u h14)) fun j15 =>
 wtS x6 false (kBin .gtr x10 (qb 3) fun x189 =>
 j15 x189 h11) (j15 u h11)) fun j12 =>
 wtS x6 false (kL1 x7 h8 fun x190 =>
 j12 x190 h8) (j12 u h8)) fun j9 =>
 wtS x6 false (kFA 0 x2 fun x191 =>
 j9 x191 h3) (j9 u h3))
theorem p33_ok (k : Nat) : p33 k = funcS k 1 lit33 := by kernel_rfl
def p34 (_ : Nat) : CtxK → List V → TH → R := fun _ => ap 1 (fun x0 h1 =>
 kEq' false (.nilR .sl) x0 .nils fun x2 =>
 brS x2 (some (.nils, h1)) (kBS 1 [(qi 0)] 0 [] h1 fun x3 h4 =>
 kAp 1 8 x3 x0 h4 fun x5 h6 =>
 some (x5, h6)))
theorem p34_ok (k : Nat) : p34 k = funcS k 1 lit34 := by kernel_rfl
def p37 (_ : Nat) : CtxK → List V → TH → R := fun _ => ap 2 (fun x0 x1 h2 =>
 kEqI false x1 (qb 7) fun x3 =>
 brS x3 (some ((.fn 63 [x0] []), h2)) (kEqI false x1 (qb 8) fun x4 =>
 brS x4 (some ((.fn 64 [x0] []), h2)) (kEqI false x1 (qb 9) fun x5 =>
 brS x5 (some ((.fn 65 [x0] []), h2)) (kEqI false x1 (qb 10) fun x6 =>
 brS x6 (some ((.fn 66 [x0] []), h2)) (kEqI false x1 (qb 11) fun x7 =>
 brS x7 (some ((.fn 67 [x0] []), h2)) (kEqI false x1 (qb 12) fun x8 =>
 brS x8 (some ((.fn 68 [x0] []), h2)) (kEqI false x1 (qb 13) fun x9 =>
 brS x9 (some ((.fn 69 [x0] []), h2)) (kEqI false x1 (qb 14) fun x10 =>
 brS x10 (some ((.fn 70 [x0] []), h2)) (kEqI false x1 (qb 15) fun x11 =>
 brS x11 (some ((.fn 71 [x0] []), h2)) (some (.nilfn, h2)))))))))))
theorem p37_ok (k : Nat) : p37 k = funcS k 2 lit37 := by kernel_rfl
def p38 (_ : Nat) : CtxK → List V → TH → R := fun X => ap 1 (fun x0 h1 =>
 kNew (V.cellsR x0) h1 fun x2 h3 =>
 kLA 131 x2 h3 fun x4 =>
 kCall X 72 [x4] h3 fun x5 h6 =>
 kNot x5 fun x7 =>
 jc (α := JT) (fun x8 h9 =>
 jc (α := JT) (fun x11 h12 =>
 jc (α := JT) (fun x14 h15 =>
 jc (α := JT) (fun x17 h18 =>
 jc (α := JT) (fun x20 h21 =>
 kPick x7 qt x20 fun x23 =>
 brS x23 (some (qf, h21)) (kFA 0 x2 fun x24 =>
 kL1 x24 h21 fun x25 =>
 kCall X 73 [x25] h21 fun x26 h27 =>
 kNew zr2 h27 fun x28 h29 =>
 kSA 11 x28 x26 h29 fun _ h31 =>
 kLA 131 x2 h31 fun x32 =>
 kLA 11 x28 h31 fun x33 =>
 kCall X 74 [x32, x33] h31 fun x34 h35 =>
 jc (α := JT) (fun x36 h37 =>
 jc (α := JT) (fun x39 h40 =>
 jc (α := JT) (fun x42 h43 =>
 jc (α := JT) (fun x45 h46 =>
 jc (α := JT) (fun x48 h49 =>
 jc (α := JT) (fun x51 h52 =>
 jc (α := JT) (fun x54 h55 =>
 kPick x34 x54 qf fun x57 =>
 jc (α := JT) (fun x58 h59 =>
 jc (α := JT) (fun x61 h62 =>
 jc (α := JT) (fun x64 h65 =>
 jc (α := JT) (fun x67 h68 =>
 jc (α := JT) (fun x70 h71 =>
 jc (α := JT) (fun x73 h74 =>
 jc (α := JT) (fun x76 h77 =>
 kPick x57 x76 qf fun x79 =>
 jc (α := JT) (fun x80 h81 =>
 jc (α := JT) (fun x83 h84 =>
 jc (α := JT) (fun x86 h87 =>
 jc (α := JT) (fun x89 h90 =>
 jc (α := JT) (fun x92 h93 =>
 jc (α := JT) (fun x95 h96 =>
 jc (α := JT) (fun x98 h99 =>
 kPick x79 x98 qf fun x101 =>
 jc (α := JT) (fun x102 h103 =>
 jc (α := JT) (fun x105 h106 =>
 jc (α := JT) (fun x108 h109 =>
 kPick x101 x108 qf fun x111 =>
 jc (α := JT) (fun x112 h113 =>
 jc (α := JT) (fun x115 h116 =>
 jc (α := JT) (fun x118 h119 =>
 jc (α := JT) (fun x121 h122 =>
 jc (α := JT) (fun x124 h125 =>
 jc (α := JT) (fun x127 h128 =>
 jc (α := JT) (fun x130 h131 =>
 jc (α := JT) (fun x133 h134 =>
 kPick x111 x133 qf fun x136 =>
 jc (α := JT) (fun x137 h138 =>
 jc (α := JT) (fun x140 h141 =>
 jc (α := JT) (fun x143 h144 =>
 jc (α := JT) (fun x146 h147 =>
 jc (α := JT) (fun x149 h150 =>
 jc (α := JT) (fun x152 h153 =>
 jc (α := JT) (fun x155 h156 =>
 jc (α := JT) (fun x158 h159 =>
 kPick x136 x158 qf fun x161 =>
 jc (α := JT) (fun x162 h163 =>
 jc (α := JT) (fun x165 h166 =>
 jc (α := JT) (fun x168 h169 =>
 jc (α := JT) (fun x171 h172 =>
 jc (α := JT) (fun x174 h175 =>
 jc (α := JT) (fun x177 h178 =>
 jc (α := JT) (fun x180 h181 =>
 jc (α := JT) (fun x183 h184 =>
 kPick x161 x183 qf fun x186 =>
 jc (α := JT) (fun x187 h188 =>
 jc (α := JT) (fun x190 h191 =>
 kPick x186 x190 qf fun x193 =>
 jc (α := JT) (fun x194 h195 =>
 jc (α := JT) (fun x197 h198 =>
 jc (α := JT) (fun x200 h201 =>
 jc (α := JT) (fun x203 h204 =>
 jc (α := JT) (fun x206 h207 =>
 jc (α := JT) (fun x209 h210 =>
 jc (α := JT) (fun x212 h213 =>
 kPick x193 x212 qf fun x215 =>
 jc (α := JT) (fun x216 h217 =>
 jc (α := JT) (fun x219 h220 =>
 jc (α := JT) (fun x222 h223 =>
 jc (α := JT) (fun x225 h226 =>
 kPick x215 x225 qf fun x228 =>
 jc (α := JT) (fun x229 h230 =>
 jc (α := JT) (fun x232 h233 =>
 jc (α := JT) (fun x235 h236 =>
 jc (α := JT) (fun x238 h239 =>
 jc (α := JT) (fun x241 h242 =>
 kPick x228 x241 qf fun x244 =>
 some (x244, h242)) fun j243 =>
 wtS x228 true (kBin .leq x238 (qi 80) fun x245 =>
 j243 x245 h239) (j243 u h239)) fun j240 =>
 wtS x228 true (kP (lenV true x235) fun x246 =>
 j240 x246 h236) (j240 u h236)) fun j237 =>
 wtS x228 true (kL1 x232 h233 fun x247 =>
 j237 x247 h233) (j237 u h233)) fun j234 =>
 wtS x228 true (kFA 1 x229 fun x248 =>
 j234 x248 h230) (j234 u h230)) fun j231 =>
 wtS x228 true (kFA 129 x2 fun x249 =>
 j231 x249 h226) (j231 u h226)) fun j227 =>
 wtS x215 true (kBin .leq x222 (qb 3) fun x250 =>
 j227 x250 h223) (j227 u h223)) fun j224 =>
 wtS x215 true (kL1 x219 h220 fun x251 =>
 j224 x251 h220) (j224 u h220)) fun j221 =>
 wtS x215 true (kFA 0 x216 fun x252 =>
 j221 x252 h217) (j221 u h217)) fun j218 =>
 wtS x215 true (kFA 129 x2 fun x253 =>
 j218 x253 h213) (j218 u h213)) fun j214 =>
 wtS x193 true (kPick x203 qt x209 fun x254 =>
 j214 x254 h210) (j214 u h210)) fun j211 =>
 wtS x203 false (kCall X 81 [x206] h207 fun x255 h256 =>
 j211 x255 h256) (j211 u h207)) fun j208 =>
 wtS x203 false (kLA 131 x2 h204 fun x257 =>
 j208 x257 h204) (j208 u h204)) fun j205 =>
 wtS x193 true (j205 x200 h201) (j205 u h201)) fun j202 =>
 wtS x193 true (kNot x197 fun x258 =>
 j202 x258 h198) (j202 u h198)) fun j199 =>
 wtS x193 true (kL1 x194 h195 fun x259 =>
 j199 x259 h195) (j199 u h195)) fun j196 =>
 wtS x193 true (kFA 9 x28 fun x260 =>
 j196 x260 h191) (j196 u h191)) fun j192 =>
 wtS x186 true (kCall X 80 [x187] h188 fun x261 h262 =>
 j192 x261 h262) (j192 u h188)) fun j189 =>
 wtS x186 true (kLA 131 x2 h184 fun x263 =>
 j189 x263 h184) (j189 u h184)) fun j185 =>
 wtS x161 true (kPick x171 qt x180 fun x264 =>
 j185 x264 h181) (j185 u h181)) fun j182 =>
 wtS x171 false (kCall X 79 [x177] h178 fun x265 h266 =>
 j182 x265 h266) (j182 u h178)) fun j179 =>
 wtS x171 false (kLA 8 x174 h175 fun x267 =>
 j179 x267 h175) (j179 u h175)) fun j176 =>
 wtS x171 false (kFA 114 x2 fun x268 =>
 j176 x268 h172) (j176 u h172)) fun j173 =>
 wtS x161 true (j173 x168 h169) (j173 u h169)) fun j170 =>
 wtS x161 true (kNot x165 fun x269 =>
 j170 x269 h166) (j170 u h166)) fun j167 =>
 wtS x161 true (kL1 x162 h163 fun x270 =>
 j167 x270 h163) (j167 u h163)) fun j164 =>
 wtS x161 true (kFA 7 x28 fun x271 =>
 j164 x271 h159) (j164 u h159)) fun j160 =>
 wtS x136 true (kPick x146 qt x155 fun x272 =>
 j160 x272 h156) (j160 u h156)) fun j157 =>
 wtS x146 false (kCall X 78 [x152] h153 fun x273 h274 =>
 j157 x273 h274) (j157 u h153)) fun j154 =>
 wtS x146 false (kLA 52 x149 h150 fun x275 =>
 j154 x275 h150) (j154 u h150)) fun j151 =>
 wtS x146 false (kFA 62 x2 fun x276 =>
 j151 x276 h147) (j151 u h147)) fun j148 =>
 wtS x136 true (j148 x143 h144) (j148 u h144)) fun j145 =>
 wtS x136 true (kNot x140 fun x277 =>
 j145 x277 h141) (j145 u h141)) fun j142 =>
 wtS x136 true (kL1 x137 h138 fun x278 =>
 j142 x278 h138) (j142 u h138)) fun j139 =>
 wtS x136 true (kFA 6 x28 fun x279 =>
 j139 x279 h134) (j139 u h134)) fun j135 =>
 wtS x111 true (kPick x121 qt x130 fun x280 =>
 j135 x280 h131) (j135 u h131)) fun j132 =>
 wtS x121 false (kCall X 50 [x127] h128 fun x281 h282 =>
 j132 x281 h282) (j132 u h128)) fun j129 =>
 wtS x121 false (kLA 49 x124 h125 fun x283 =>
 j129 x283 h125) (j129 u h125)) fun j126 =>
 wtS x121 false (kFA 13 x2 fun x284 =>
 j126 x284 h122) (j126 u h122)) fun j123 =>
 wtS x111 true (j123 x118 h119) (j123 u h119)) fun j120 =>
 wtS x111 true (kNot x115 fun x285 =>
 j120 x285 h116) (j120 u h116)) fun j117 =>
 wtS x111 true (kL1 x112 h113 fun x286 =>
 j117 x286 h113) (j117 u h113)) fun j114 =>
 wtS x111 true (kFA 5 x28 fun x287 =>
 j114 x287 h109) (j114 u h109)) fun j110 =>
 wtS x101 true (kBin .lss x105 (qb 4) fun x288 =>
 j110 x288 h106) (j110 u h106)) fun j107 =>
 wtS x101 true (kL1 x102 h103 fun x289 =>
 j107 x289 h103) (j107 u h103)) fun j104 =>
 wtS x101 true (kFA 12 x2 fun x290 =>
 j104 x290 h99) (j104 u h99)) fun j100 =>
 wtS x79 true (kPick x89 qt x95 fun x291 =>
 j100 x291 h96) (j100 u h96)) fun j97 =>
 wtS x89 false (kCall X 77 [x92] h93 fun x292 h293 =>
 j97 x292 h293) (j97 u h93)) fun j94 =>
 wtS x89 false (kLA 131 x2 h90 fun x294 =>
 j94 x294 h90) (j94 u h90)) fun j91 =>
 wtS x79 true (j91 x86 h87) (j91 u h87)) fun j88 =>
 wtS x79 true (kNot x83 fun x295 =>
 j88 x295 h84) (j88 u h84)) fun j85 =>
 wtS x79 true (kL1 x80 h81 fun x296 =>
 j85 x296 h81) (j85 u h81)) fun j82 =>
 wtS x79 true (kFA 3 x28 fun x297 =>
 j82 x297 h77) (j82 u h77)) fun j78 =>
 wtS x57 true (kPick x67 qt x73 fun x298 =>
 j78 x298 h74) (j78 u h74)) fun j75 =>
 wtS x67 false (kCall X 76 [x70] h71 fun x299 h300 =>
 j75 x299 h300) (j75 u h71)) fun j72 =>
 wtS x67 false (kLA 131 x2 h68 fun x301 =>
 j72 x301 h68) (j72 u h68)) fun j69 =>
 wtS x57 true (j69 x64 h65) (j69 u h65)) fun j66 =>
 wtS x57 true (kNot x61 fun x302 =>
 j66 x302 h62) (j66 u h62)) fun j63 =>
 wtS x57 true (kL1 x58 h59 fun x303 =>
 j63 x303 h59) (j63 u h59)) fun j60 =>
 wtS x57 true (kFA 1 x28 fun x304 =>
 j60 x304 h55) (j60 u h55)) fun j56 =>
 wtS x34 true (kPick x45 qt x51 fun x305 =>
 j56 x305 h52) (j56 u h52)) fun j53 =>
 wtS x45 false (kCall X 75 [x48] h49 fun x306 h307 =>
 j53 x306 h307) (j53 u h49)) fun j50 =>
 wtS x45 false (kLA 131 x2 h46 fun x308 =>
 j50 x308 h46) (j50 u h46)) fun j47 =>
 wtS x34 true (j47 x42 h43) (j47 u h43)) fun j44 =>
 wtS x34 true (kNot x39 fun x309 =>
 j44 x309 h40) (j44 u h40)) fun j41 =>
 wtS x34 true (kL1 x36 h37 fun x310 =>
 j41 x310 h37) (j41 u h37)) fun j38 =>
 wtS x34 true (kFA 0 x28 fun x311 =>
 j38 x311 h35) (j38 u h35))) fun j22 =>
 wtS x7 false (kEqI false x11 x17 fun x312 =>
 j22 x312 h18) (j22 u h18)) fun j19 =>
 wtS x7 false (kL1 x14 h15 fun x313 =>
 j19 x313 h15) (j19 u h15)) fun j16 =>
 wtS x7 false (kFA 2 x2 fun x314 =>
 j16 x314 h12) (j16 u h12)) fun j13 =>
 wtS x7 false (kL1 x8 h9 fun x315 =>
 j13 x315 h9) (j13 u h9)) fun j10 =>
 wtS x7 false (kFA 1 x2 fun x316 =>
 j10 x316 h6) (j10 u h6))
theorem p38_ok (k : Nat) : p38 k = funcS k 1 lit38 := by kernel_rfl
def p50 (k : Nat) : CtxK → List V → TH → R := fun X => ap 1 (fun x0 h1 =>
 kNew (V.cellsR x0) h1 fun x2 h3 =>
 kFA 0 x2 fun x4 =>
 kL1 x4 h3 fun x5 =>
 kBin .gtr x5 (qw 60) fun x6 =>
 jc (α := JT) (fun x7 h8 =>
 jc (α := JT) (fun x10 h11 =>
 jc (α := JT) (fun x13 h14 =>
 jc (α := JT) (fun x16 h17 =>
 kPick x6 qt x16 fun x19 =>
 jc (α := JT) (fun x20 h21 =>
 jc (α := JT) (fun x23 h24 =>
 jc (α := JT) (fun x26 h27 =>
 jc (α := JT) (fun x29 h30 =>
 jc (α := JT) (fun x32 h33 =>
 kPick x19 qt x32 fun x35 =>
 jc (α := JT) (fun x36 h37 =>
 jc (α := JT) (fun x39 h40 =>
 jc (α := JT) (fun x42 h43 =>
 jc (α := JT) (fun x45 h46 =>
 kPick x35 qt x45 fun x48 =>
 jc (α := JT) (fun x49 h50 =>
 jc (α := JT) (fun x52 h53 =>
 jc (α := JT) (fun x55 h56 =>
 jc (α := JT) (fun x58 h59 =>
 kPick x48 qt x58 fun x61 =>
 brS x61 (some (qf, h59)) (kFA 40 x2 fun x62 =>
 kLA 8 x62 h59 fun x63 =>
 kNew zr3 h59 fun x64 h65 =>
 kSA 8 x64 x63 h65 fun _ h67 =>
 kFA 48 x2 fun x68 =>
 kL1 x68 h67 fun x69 =>
 kLen x69 fun x70 =>
 lp (α := Cur 49) (zN 49) (fun n121 _ _ _ x74 _ _ _ _ _ _ _ _ _ _ _ _ _ _ _ _ _ _ _ _ _ _ _ _ _ _ _ _ _ _ _ _ _ x108 x109 x110 _ _ _ _ _ _ _ _ _ h120 =>
 kBin .lss x110 x109 fun x122 =>
 brS x122 (kIS 8 x108 x110 fun x123 =>
 kLA 8 x123 h120 fun x124 =>
 kNew zr3 h120 fun x125 h126 =>
 kSA 8 x125 x124 h126 fun _ h128 =>
 kLA 8 x74 h128 fun x129 =>
 kLA 8 x125 h128 fun x130 =>
 kCall X 92 [x129, x130] h128 fun x131 h132 =>
 kNot x131 fun x133 =>
 brS x133 (some (qf, h132)) (kLA 8 x125 h132 fun x134 =>
 kSA 8 x74 x134 h132 fun _ h136 =>
 kBin .add x110 (qi 1) fun x137 =>
 n121 u u u x74 u u u u u u u u u u u u u u u u u u u u u u u u u u u u u u u u u x108 x109 x137 u u u u u u u u u h136)) (some (qt, h120))) k u u u x64 u u u u u u u u u u u u u u u u u u u u u u u u u u u u u u u u u x69 x70 (qi 0) u u u u u u u u u h67)) fun j60 =>
 wtS x48 false (kNot x55 fun x138 =>
 j60 x138 h56) (j60 u h56)) fun j57 =>
 wtS x48 false (kCall X 91 [x52] h53 fun x139 h140 =>
 j57 x139 h140) (j57 u h53)) fun j54 =>
 wtS x48 false (kLA 39 x49 h50 fun x141 =>
 j54 x141 h50) (j54 u h50)) fun j51 =>
 wtS x48 false (kFA 1 x2 fun x142 =>
 j51 x142 h46) (j51 u h46)) fun j47 =>
 wtS x35 false (kBin .gtr x42 (qi 6) fun x143 =>
 j47 x143 h43) (j47 u h43)) fun j44 =>
 wtS x35 false (kLen x39 fun x144 =>
 j44 x144 h40) (j44 u h40)) fun j41 =>
 wtS x35 false (kL1 x36 h37 fun x145 =>
 j41 x145 h37) (j41 u h37)) fun j38 =>
 wtS x35 false (kFA 48 x2 fun x146 =>
 j38 x146 h33) (j38 u h33)) fun j34 =>
 wtS x19 false (kEq' true (.agg [.int, .int, .int, .int, .int, .str]) x26 x29 fun x147 =>
 j34 x147 h30) (j34 u h30)) fun j31 =>
 wtS x19 false (kB [(qb 0), (qw 0), (qb 0), (qb 0), (qb 0), qs] [] fun x148 =>
 j31 x148 h27) (j31 u h27)) fun j28 =>
 wtS x19 false (kLA 6 x23 h24 fun x149 =>
 j28 x149 h24) (j28 u h24)) fun j25 =>
 wtS x19 false (kFA 2 x20 fun x150 =>
 j25 x150 h21) (j25 u h21)) fun j22 =>
 wtS x19 false (kFA 40 x2 fun x151 =>
 j22 x151 h17) (j22 u h17)) fun j18 =>
 wtS x6 false (kBin .gtr x13 (qw 60) fun x152 =>
 j18 x152 h14) (j18 u h14)) fun j15 =>
 wtS x6 false (kL1 x10 h11 fun x153 =>
 j15 x153 h11) (j15 u h11)) fun j12 =>
 wtS x6 false (kFA 0 x7 fun x154 =>
 j12 x154 h8) (j12 u h8)) fun j9 =>
 wtS x6 false (kFA 40 x2 fun x155 =>
 j9 x155 h3) (j9 u h3))
theorem p50_ok (k : Nat) : p50 k = funcS k 1 lit50 := by kernel_rfl
def p51 (_ : Nat) : CtxK → List V → TH → R := fun _ => ap 1 (fun x0 h1 =>
 kNew (V.cellsR x0) h1 fun x2 h3 =>
 kNew zr3 h3 fun x4 h5 =>
 kFA 48 x2 fun x6 =>
 kL1 x6 h5 fun x7 =>
 kLen x7 fun x8 =>
 kEqI false x8 (qi 0) fun x9 =>
 brS x9 (kFA 40 x2 fun x10 =>
 kLA 8 x10 h5 fun x11 =>
 kSA 8 x4 x11 h5 fun _ h13 =>
 rsS [.cell 2 true 8] [x0, x2, x4, x6, x7, x8, x9, x10, x11, u, u, u, u, u, u, u, u] h13) (kFA 48 x2 fun x14 =>
 kL1 x14 h5 fun x15 =>
 kFA 48 x2 fun x16 =>
 kL1 x16 h5 fun x17 =>
 kLen x17 fun x18 =>
 kBin .sub x18 (qi 1) fun x19 =>
 kIS 8 x15 x19 fun x20 =>
 kLA 8 x20 h5 fun x21 =>
 kSA 8 x4 x21 h5 fun _ h23 =>
 rsS [.cell 2 true 8] [x0, x2, x4, x6, x7, x8, x9, u, u, x14, x15, x16, x17, x18, x19, x20, x21] h23))
theorem p51_ok (k : Nat) : p51 k = funcS k 1 lit51 := by kernel_rfl
def p53 (_ : Nat) : CtxK → List V → TH → R := fun X => ap 2 (fun x0 x1 h2 =>
 kCall X 35 [x0, x1] h2 fun x3 h4 =>
 kP (fieldE false 0 1 x3) fun x5 =>
 some (x5, h4))
theorem p53_ok (k : Nat) : p53 k = funcS k 2 lit53 := by kernel_rfl
def p59 (k : Nat) : CtxK → List V → TH → R := fun X => ap 2 (fun x0 x1 h2 =>
 kNew (V.cellsR x1) h2 fun x3 h4 =>
 kNilc x0 fun x5 =>
 kFA 0 x5 fun x6 =>
 kL1 x6 h4 fun x9 =>
 kFA 0 x3 fun x10 =>
 kL1 x10 h4 fun x13 =>
 kLA 16 x3 h4 fun x16 =>
 kMU x9 x13 x16 h4 fun _ h18 =>
 dokS [h4, h18] [] (kFA 0 x3 fun x19 =>
 kL1 x19 h18 fun x20 =>
 kNilc x0 fun x21 =>
 kFA 2 x21 fun x22 =>
 kS1 x22 x20 h18 fun _ h24 =>
 lp (α := Cur 60) (zN 60) (fun n86 x25 _ _ x28 _ _ _ _ _ _ _ _ _ _ _ _ _ _ _ x44 _ _ _ _ _ _ _ _ _ _ _ _ _ _ _ _ _ _ _ _ _ _ _ _ _ _ _ _ _ _ _ _ _ _ _ _ _ _ _ _ h85 =>
 kBin .lss x44 (qi 4) fun x87 =>
 brS x87 (kLA 16 x28 h85 fun x88 =>
 kConv .u8 x44 fun x89 =>
 kCall X 100 [x88, x89] h85 fun x90 h91 =>
 kNilc x25 fun x92 =>
 kFA 3 x92 fun x93 =>
 kIA 4 1 x93 x44 fun x94 =>
 kL1 x94 h91 fun x95 =>
 kLen x95 fun x96 =>
 kEqI false x96 (qi 0) fun x97 =>
 jc (α := JT) (fun x98 h99 =>
 jc (α := JT) (fun x101 h102 =>
 jc (α := JT) (fun x104 h105 =>
 jc (α := JT) (fun x107 h108 =>
 jc (α := JT) (fun x110 h111 =>
 jc (α := JT) (fun x113 h114 =>
 jc (α := JT) (fun x116 h117 =>
 jc (α := JT) (fun x119 h120 =>
 jc (α := JT) (fun x122 h123 =>
 jc (α := JT) (fun x125 h126 =>
 kPick x97 qt x125 fun x128 =>
 jc (α := Cur 60) (fun x129 _ _ x132 _ _ _ _ _ _ _ _ _ _ _ _ _ _ _ x148 _ _ _ _ _ _ _ _ _ _ _ _ _ _ _ _ _ _ _ _ _ _ _ _ _ _ _ _ _ _ _ _ _ _ _ _ _ _ _ _ h189 =>
 kBin .add x148 (qi 1) fun x191 =>
 n86 x129 u u x132 u u u u u u u u u u u u u u u x191 u u u u u u u u u u u u u u u u u u u u u u u u u u u u u u u u u u u u u u u u h189) fun j190 =>
 brS x128 (kFA 0 x28 fun x192 =>
 kL1 x192 h126 fun x195 =>
 kB [(qw 0), .nils] [(0, 1, x195), (1, 1, x90)] fun x196 =>
 kBS 2 [(qw 0), .nils] 1 [(0, 2, x196)] h126 fun x197 h198 =>
 kNilc x25 fun x199 =>
 kFA 3 x199 fun x200 =>
 kAp 2 32 x95 x197 h198 fun x201 h202 =>
 kIA 4 1 x200 x44 fun x203 =>
 kS1 x203 x201 h202 fun _ h205 =>
 dokS [h198, h202, h205] [] (j190 x25 u u x28 u u u u u u u u u u u u u u u x44 u u u u u u u u u u u u u u u u u u u u u u u u u u u u u u u u u u u u u u u u h205)) (j190 x25 u u x28 u u u u u u u u u u u u u u u x44 u u u u u u u u u u u u u u u u u u u u u u u u u u u u u u u u u u u u u u u u h126)) fun j127 =>
 wtS x97 false (kNot x122 fun x206 =>
 j127 x206 h123) (j127 u h123)) fun j124 =>
 wtS x97 false (kCall X 101 [x116, x119] h120 fun x207 h208 =>
 j124 x207 h208) (j124 u h120)) fun j121 =>
 wtS x97 false (j121 x90 h117) (j121 u h117)) fun j118 =>
 wtS x97 false (kL1 x113 h114 fun x209 =>
 j118 x209 h114) (j118 u h114)) fun j115 =>
 wtS x97 false (kFA 1 x110 fun x210 =>
 j115 x210 h111) (j115 u h111)) fun j112 =>
 wtS x97 false (kIS 2 x98 x107 fun x211 =>
 j112 x211 h108) (j112 u h108)) fun j109 =>
 wtS x97 false (kBin .sub x104 (qi 1) fun x212 =>
 j109 x212 h105) (j109 u h105)) fun j106 =>
 wtS x97 false (kLen x101 fun x213 =>
 j106 x213 h102) (j106 u h102)) fun j103 =>
 wtS x97 false (j103 x95 h99) (j103 u h99)) fun j100 =>
 wtS x97 false (j100 x95 h91) (j100 u h91)) (some (.tup [], h85))) k x0 u u x3 u u u u u u u u u u u u u u u (qi 0) u u u u u u u u u u u u u u u u u u u u u u u u u u u u u u u u u u u u u u u u h24))
theorem p59_ok (k : Nat) : p59 k = funcS k 2 lit59 := by kernel_rfl
def p63 (_ : Nat) : CtxK → List V → TH → R := fun X => ap 3 (fun x0 _ x2 h3 =>
 kNew (V.cellsR x2) h3 fun x4 h5 =>
 kLA 131 x4 h5 fun x6 =>
 kCall X 104 [x6] h5 fun x7 h8 =>
 kCall X 55 [x0] h8 fun x9 h10 =>
 kEqI true x7 x9 fun x11 =>
 brS x11 (some (.nils, h10)) (kLA 131 x4 h10 fun x12 =>
 kCall X 104 [x12] h10 fun x13 h14 =>
 kCall X 89 [x0, (qb 8), x13] h14 fun x15 h16 =>
 kNew zr1 h16 fun x17 h18 =>
 kSA 131 x17 x15 h18 fun _ h20 =>
 kNilc x0 fun x21 =>
 kFA 3 x21 fun x22 =>
 kLA 49 x22 h20 fun x23 =>
 kFA 13 x17 fun x24 =>
 kSA 49 x24 x23 h20 fun _ h26 =>
 kLA 131 x17 h26 fun x27 =>
 kBS 131 zr1 1 [(0, 131, x27)] h26 fun x28 h29 =>
 some (x28, h29)))
theorem p63_ok (k : Nat) : p63 k = funcS k 3 lit63 := by kernel_rfl
def p74 (_ : Nat) : CtxK → List V → TH → R := fun X => ap 2 (fun x0 x1 h2 =>
 kNew (V.cellsR x0) h2 fun x3 h4 =>
 kNew (V.cellsR x1) h4 fun x5 h6 =>
 kFA 62 x3 fun x7 =>
 kFA 2 x7 fun x8 =>
 kL1 x8 h6 fun x9 =>
 kLen x9 fun x10 =>
 kEqI false x10 (qi 0) fun x11 =>
 jc (α := JT) (fun x12 h13 =>
 jc (α := JT) (fun x15 h16 =>
 jc (α := JT) (fun x18 h19 =>
 jc (α := JT) (fun x21 h22 =>
 kPick x11 x21 qf fun x24 =>
 jc (α := JT) (fun x25 h26 =>
 jc (α := JT) (fun x28 h29 =>
 jc (α := JT) (fun x31 h32 =>
 jc (α := JT) (fun x34 h35 =>
 kPick x24 x34 qf fun x37 =>
 jc (α := JT) (fun x38 h39 =>
 jc (α := JT) (fun x41 h42 =>
 jc (α := JT) (fun x44 h45 =>
 jc (α := JT) (fun x47 h48 =>
 jc (α := JT) (fun x50 h51 =>
 kPick x37 x50 qf fun x53 =>
 kFA 0 x5 fun x54 =>
 kL1 x54 h51 fun x57 =>
 jc (α := JT) (fun x58 h59 =>
 jc (α := V → TH → PD → R) (fun x63 h64 d65 =>
 jc (α := JT) (fun x67 h68 =>
 kPick x57 qt x67 fun x70 =>
 kFA 1 x5 fun x71 =>
 kL1 x71 h68 fun x74 =>
 jc (α := JT) (fun x75 h76 =>
 jc (α := V → TH → PD → R) (fun x80 h81 d82 =>
 jc (α := JT) (fun x84 h85 =>
 jc (α := JT) (fun x87 h88 =>
 kPick x74 qt x87 fun x90 =>
 kFA 2 x5 fun x91 =>
 kL1 x91 h88 fun x94 =>
 jc (α := JT) (fun x95 h96 =>
 jc (α := V → TH → PD → R) (fun x100 h101 d102 =>
 jc (α := JT) (fun x104 h105 =>
 jc (α := JT) (fun x107 h108 =>
 jc (α := JT) (fun x110 h111 =>
 jc (α := JT) (fun x113 h114 =>
 jc (α := V → TH → PD → R) (fun x118 h119 d120 =>
 jc (α := JT) (fun x122 h123 =>
 jc (α := JT) (fun x125 h126 =>
 kPick x94 qt x125 fun x128 =>
 kFA 3 x5 fun x129 =>
 kL1 x129 h126 fun x132 =>
 jc (α := JT) (fun x133 h134 =>
 jc (α := V → TH → PD → R) (fun x138 h139 d140 =>
 jc (α := JT) (fun x142 h143 =>
 jc (α := JT) (fun x145 h146 =>
 kPick x132 qt x145 fun x148 =>
 kFA 4 x5 fun x149 =>
 kL1 x149 h146 fun x152 =>
 jc (α := JT) (fun x153 h154 =>
 jc (α := V → TH → PD → R) (fun x158 h159 d160 =>
 jc (α := JT) (fun x162 h163 =>
 kPick x152 qt x162 fun x165 =>
 kFA 5 x5 fun x166 =>
 kL1 x166 h163 fun x169 =>
 jc (α := JT) (fun x170 h171 =>
 jc (α := V → TH → PD → R) (fun x175 h176 d177 =>
 jc (α := JT) (fun x179 h180 =>
 kFA 6 x5 fun x182 =>
 kL1 x182 h180 fun x185 =>
 kFA 7 x5 fun x186 =>
 kL1 x186 h180 fun x189 =>
 kFA 8 x5 fun x190 =>
 kL1 x190 h180 fun x193 =>
 kFA 9 x5 fun x194 =>
 kL1 x194 h180 fun x197 =>
 kFA 10 x5 fun x198 =>
 kL1 x198 h180 fun x201 =>
 jc (α := JT) (fun x202 h203 =>
 kPick x169 qt x202 fun x205 =>
 jc (α := JT) (fun x206 h207 =>
 kPick x185 qt x206 fun x209 =>
 jc (α := JT) (fun x210 h211 =>
 jc (α := V → TH → PD → R) (fun x215 h216 d217 =>
 jc (α := JT) (fun x219 h220 =>
 jc (α := JT) (fun x222 h223 =>
 kPick x189 qt x222 fun x225 =>
 jc (α := JT) (fun x226 h227 =>
 jc (α := V → TH → PD → R) (fun x231 h232 d233 =>
 jc (α := JT) (fun x235 h236 =>
 kPick x193 qt x235 fun x238 =>
 jc (α := JT) (fun x239 h240 =>
 jc (α := V → TH → PD → R) (fun x244 h245 d246 =>
 jc (α := JT) (fun x248 h249 =>
 jc (α := JT) (fun x251 h252 =>
 kPick x197 qt x251 fun x254 =>
 jc (α := JT) (fun x255 h256 =>
 jc (α := V → TH → PD → R) (fun x260 h261 d262 =>
 jc (α := JT) (fun x264 h265 =>
 jc (α := JT) (fun x267 h268 =>
 kPick x201 qt x267 fun x270 =>
 kBS 1 [qf] 11 [(0, 1, x70), (1, 1, x90), (2, 1, x128), (3, 1, x148), (4, 1, x165), (5, 1, x205), (6, 1, x209), (7, 1, x225), (8, 1, x238), (9, 1, x254), (10, 1, x270)] h268 fun x271 h272 =>
 dokS [h180, h272] d262 (kCall X 120 [x271, qf] h272 fun x273 h274 =>
 kNot x273 fun x275 =>
 some (x275, h274))) fun j269 =>
 wtS x201 false (kEq' false (.agg [.int, .str]) x260 x264 fun x276 =>
 j269 x276 h265) (j269 u h265)) fun j266 =>
 wtS x201 false (kB [(qb 0), qs] [] fun x277 =>
 j266 x277 h261) (j266 u h261)) fun j263 =>
 wtS x201 false (kLA 2 x255 h256 fun x278 =>
 j263 x278 h256 d246) (j263 u h256 d246)) fun j257 =>
 wtS x201 false (kFA 129 x3 fun x279 =>
 j257 x279 h252) (j257 u h252)) fun j253 =>
 wtS x197 false (kEq' false (.agg [.int, .int, .int, .int, .int, .str]) x244 x248 fun x280 =>
 j253 x280 h249) (j253 u h249)) fun j250 =>
 wtS x197 false (kB [(qb 0), (qw 0), (qb 0), (qb 0), (qb 0), qs] [] fun x281 =>
 j250 x281 h245) (j250 u h245)) fun j247 =>
 wtS x197 false (kLA 6 x239 h240 fun x282 =>
 j247 x282 h240 d233) (j247 u h240 d233)) fun j241 =>
 wtS x197 false (kFA 123 x3 fun x283 =>
 j241 x283 h236) (j241 u h236)) fun j237 =>
 wtS x193 false (kEqI false x231 (qw 0) fun x284 =>
 j237 x284 h232) (j237 u h232)) fun j234 =>
 wtS x193 false (kL1 x226 h227 fun x285 =>
 j234 x285 h227 d217) (j234 u h227 d217)) fun j228 =>
 wtS x193 false (kFA 122 x3 fun x286 =>
 j228 x286 h223) (j228 u h223)) fun j224 =>
 wtS x189 false (kEq' false (.agg [.int, .int, .int, .int, .int, .int, .int, .str]) x215 x219 fun x287 =>
 j224 x287 h220) (j224 u h220)) fun j221 =>
 wtS x189 false (kB zr3 [] fun x288 =>
 j221 x288 h216) (j221 u h216)) fun j218 =>
 wtS x189 false (kLA 8 x210 h211 fun x289 =>
 j218 x289 h211 ((fun h199 => kL1 x198 h199 fun x200 =>
 some (x200, h199), x201, 0, 1) :: ((fun h195 => kL1 x194 h195 fun x196 =>
 some (x196, h195), x197, 0, 1) :: ((fun h191 => kL1 x190 h191 fun x192 =>
 some (x192, h191), x193, 0, 1) :: ((fun h187 => kL1 x186 h187 fun x188 =>
 some (x188, h187), x189, 0, 1) :: ((fun h183 => kL1 x182 h183 fun x184 =>
 some (x184, h183), x185, 0, 1) :: d177)))))) (j218 u h211 ((fun h199 => kL1 x198 h199 fun x200 =>
 some (x200, h199), x201, 0, 1) :: ((fun h195 => kL1 x194 h195 fun x196 =>
 some (x196, h195), x197, 0, 1) :: ((fun h191 => kL1 x190 h191 fun x192 =>
 some (x192, h191), x193, 0, 1) :: ((fun h187 => kL1 x186 h187 fun x188 =>
 some (x188, h187), x189, 0, 1) :: ((fun h183 => kL1 x182 h183 fun x184 =>
 some (x184, h183), x185, 0, 1) :: d177))))))) fun j212 =>
 wtS x189 false (kFA 114 x3 fun x290 =>
 j212 x290 h207) (j212 u h207)) fun j208 =>
 wtS x185 false (j208 x53 h203) (j208 u h203)) fun j204 =>
 wtS x169 false (kCall X 15 [x175, x179] h180 fun x291 h292 =>
 j204 x291 h292) (j204 u h180)) fun j181 =>
 wtS x169 false (kB zr0 [] fun x293 =>
 j181 x293 h176) (j181 u h176)) fun j178 =>
 wtS x169 false (kLA 49 x170 h171 fun x294 =>
 j178 x294 h171 d160) (j178 u h171 d160)) fun j172 =>
 wtS x169 false (kFA 13 x3 fun x295 =>
 j172 x295 h163) (j172 u h163)) fun j164 =>
 wtS x152 false (kEqI false x158 (qb 0) fun x296 =>
 j164 x296 h159) (j164 u h159)) fun j161 =>
 wtS x152 false (kL1 x153 h154 fun x297 =>
 j161 x297 h154 ((fun h156 => kL1 x153 h156 fun x157 =>
 some (x157, h156), x297, 0, 1) :: d140)) (j161 u h154 d140)) fun j155 =>
 wtS x152 false (kFA 12 x3 fun x298 =>
 j155 x298 h146) (j155 u h146)) fun j147 =>
 wtS x132 false (kEq' false (.agg [.int, .int, .int]) x138 x142 fun x299 =>
 j147 x299 h143) (j147 u h143)) fun j144 =>
 wtS x132 false (kB [(qb 0), (qb 0), (qi 0)] [] fun x300 =>
 j144 x300 h139) (j144 u h139)) fun j141 =>
 wtS x132 false (kLA 3 x133 h134 fun x301 =>
 j141 x301 h134 ((fun h136 => kLA 3 x133 h136 fun x137 =>
 some (x137, h136), x301, 0, 1) :: d120)) (j141 u h134 d120)) fun j135 =>
 wtS x132 false (kFA 9 x3 fun x302 =>
 j135 x302 h126) (j135 u h126)) fun j127 =>
 wtS x94 false (kPick x110 x122 qf fun x303 =>
 j127 x303 h123) (j127 u h123)) fun j124 =>
 wtS x110 true (kNot x118 fun x304 =>
 j124 x304 h119) (j124 u h119)) fun j121 =>
 wtS x110 true (kL1 x113 h114 fun x305 =>
 j121 x305 h114 ((fun h116 => kL1 x113 h116 fun x117 =>
 some (x117, h116), x305, 0, 1) :: d102)) (j121 u h114 d102)) fun j115 =>
 wtS x110 true (kFA 8 x3 fun x306 =>
 j115 x306 h111) (j115 u h111)) fun j112 =>
 wtS x94 false (j112 x107 h108) (j112 u h108)) fun j109 =>
 wtS x94 false (kEq' false (.agg [.int, .int]) x100 x104 fun x307 =>
 j109 x307 h105) (j109 u h105)) fun j106 =>
 wtS x94 false (kB [(qw 0), (qb 0)] [] fun x308 =>
 j106 x308 h101) (j106 u h101)) fun j103 =>
 wtS x94 false (kLA 2 x95 h96 fun x309 =>
 j103 x309 h96 d82) (j103 u h96 d82)) fun j97 =>
 wtS x94 false (kFA 6 x3 fun x310 =>
 j97 x310 h88) (j97 u h88)) fun j89 =>
 wtS x74 false (kEq' false (.agg [.int, .int]) x80 x84 fun x311 =>
 j89 x311 h85) (j89 u h85)) fun j86 =>
 wtS x74 false (kB [(qw 0), (qb 0)] [] fun x312 =>
 j86 x312 h81) (j86 u h81)) fun j83 =>
 wtS x74 false (kLA 2 x75 h76 fun x313 =>
 j83 x313 h76 ((fun h78 => kLA 2 x75 h78 fun x79 =>
 some (x79, h78), x313, 0, 1) :: d65)) (j83 u h76 d65)) fun j77 =>
 wtS x74 false (kFA 4 x3 fun x314 =>
 j77 x314 h68) (j77 u h68)) fun j69 =>
 wtS x57 false (kEqI false x63 (qw 0) fun x315 =>
 j69 x315 h64) (j69 u h64)) fun j66 =>
 wtS x57 false (kL1 x58 h59 fun x316 =>
 j66 x316 h59 ((fun h61 => kL1 x58 h61 fun x62 =>
 some (x62, h61), x316, 0, 1) :: [])) (j66 u h59 [])) fun j60 =>
 wtS x57 false (kFA 3 x3 fun x317 =>
 j60 x317 h51) (j60 u h51)) fun j52 =>
 wtS x37 true (kCall X 15 [x44, x47] h48 fun x318 h319 =>
 j52 x318 h319) (j52 u h48)) fun j49 =>
 wtS x37 true (kB zr0 [] fun x320 =>
 j49 x320 h45) (j49 u h45)) fun j46 =>
 wtS x37 true (kLA 49 x41 h42 fun x321 =>
 j46 x321 h42) (j46 u h42)) fun j43 =>
 wtS x37 true (kFA 3 x38 fun x322 =>
 j43 x322 h39) (j43 u h39)) fun j40 =>
 wtS x37 true (kFA 62 x3 fun x323 =>
 j40 x323 h35) (j40 u h35)) fun j36 =>
 wtS x24 true (kEqI false x31 (qw 0) fun x324 =>
 j36 x324 h32) (j36 u h32)) fun j33 =>
 wtS x24 true (kL1 x28 h29 fun x325 =>
 j33 x325 h29) (j33 u h29)) fun j30 =>
 wtS x24 true (kFA 1 x25 fun x326 =>
 j30 x326 h26) (j30 u h26)) fun j27 =>
 wtS x24 true (kFA 62 x3 fun x327 =>
 j27 x327 h22) (j27 u h22)) fun j23 =>
 wtS x11 true (kEqI false x18 (qi 0) fun x328 =>
 j23 x328 h19) (j23 u h19)) fun j20 =>
 wtS x11 true (kL1 x15 h16 fun x329 =>
 j20 x329 h16) (j20 u h16)) fun j17 =>
 wtS x11 true (kFA 0 x12 fun x330 =>
 j17 x330 h13) (j17 u h13)) fun j14 =>
 wtS x11 true (kFA 62 x3 fun x331 =>
 j14 x331 h6) (j14 u h6))
theorem p74_ok (k : Nat) : p74 k = funcS k 2 lit74 := by kernel_rfl
def p78 (_ : Nat) : CtxK → List V → TH → R := fun X => ap 1 (fun x0 h1 =>
 kNew (V.cellsR x0) h1 fun x2 h3 =>
 kFA 0 x2 fun x4 =>
 kL1 x4 h3 fun x5 =>
 kEqI false x5 (qi 0) fun x6 =>
 brS x6 (kFA 1 x2 fun x7 =>
 kL1 x7 h3 fun x8 =>
 kEqI false x8 (qw 0) fun x9 =>
 jc (α := JT) (fun x10 h11 =>
 jc (α := JT) (fun x13 h14 =>
 jc (α := JT) (fun x16 h17 =>
 jc (α := JT) (fun x19 h20 =>
 kPick x9 x19 qf fun x22 =>
 jc (α := JT) (fun x23 h24 =>
 jc (α := JT) (fun x26 h27 =>
 jc (α := JT) (fun x29 h30 =>
 kPick x22 x29 qf fun x32 =>
 some (x32, h30)) fun j31 =>
 wtS x22 true (kCall X 123 [x26] h27 fun x33 h34 =>
 j31 x33 h34) (j31 u h27)) fun j28 =>
 wtS x22 true (kLA 49 x23 h24 fun x35 =>
 j28 x35 h24) (j28 u h24)) fun j25 =>
 wtS x22 true (kFA 3 x2 fun x36 =>
 j25 x36 h20) (j25 u h20)) fun j21 =>
 wtS x9 true (kEqI false x16 (qi 0) fun x37 =>
 j21 x37 h17) (j21 u h17)) fun j18 =>
 wtS x9 true (kLen x13 fun x38 =>
 j18 x38 h14) (j18 u h14)) fun j15 =>
 wtS x9 true (kL1 x10 h11 fun x39 =>
 j15 x39 h11) (j15 u h11)) fun j12 =>
 wtS x9 true (kFA 2 x2 fun x40 =>
 j12 x40 h3) (j12 u h3)) (kEqI false x5 (qi 2) fun x41 =>
 brS x41 (kFA 1 x2 fun x42 =>
 kL1 x42 h3 fun x43 =>
 kEqI false x43 (qw 0) fun x44 =>
 jc (α := JT) (fun x45 h46 =>
 jc (α := JT) (fun x48 h49 =>
 jc (α := JT) (fun x51 h52 =>
 jc (α := JT) (fun x54 h55 =>
 kPick x44 x54 qf fun x57 =>
 jc (α := JT) (fun x58 h59 =>
 jc (α := JT) (fun x61 h62 =>
 jc (α := JT) (fun x64 h65 =>
 kPick x57 x64 qf fun x67 =>
 some (x67, h65)) fun j66 =>
 wtS x57 true (kCall X 50 [x61] h62 fun x68 h69 =>
 j66 x68 h69) (j66 u h62)) fun j63 =>
 wtS x57 true (kLA 49 x58 h59 fun x70 =>
 j63 x70 h59) (j63 u h59)) fun j60 =>
 wtS x57 true (kFA 3 x2 fun x71 =>
 j60 x71 h55) (j60 u h55)) fun j56 =>
 wtS x44 true (kEqI false x51 (qi 0) fun x72 =>
 j56 x72 h52) (j56 u h52)) fun j53 =>
 wtS x44 true (kLen x48 fun x73 =>
 j53 x73 h49) (j53 u h49)) fun j50 =>
 wtS x44 true (kL1 x45 h46 fun x74 =>
 j50 x74 h46) (j50 u h46)) fun j47 =>
 wtS x44 true (kFA 2 x2 fun x75 =>
 j47 x75 h3) (j47 u h3)) (kFA 2 x2 fun x76 =>
 kL1 x76 h3 fun x77 =>
 kB zr0 [(48, 1, x77)] fun x78 =>
 kNew zr0 h3 fun x79 h80 =>
 kSA 49 x79 x78 h80 fun _ h82 =>
 kFA 2 x2 fun x83 =>
 kL1 x83 h82 fun x84 =>
 kLen x84 fun x85 =>
 kBin .gtr x85 (qi 0) fun x86 =>
 jc (α := Cur 65) (fun _ x88 _ x90 _ _ _ _ _ _ _ _ _ _ _ _ _ _ _ _ _ _ _ _ _ _ _ _ _ _ _ _ _ _ _ _ _ _ _ _ _ _ _ _ _ _ _ _ _ _ _ _ _ _ _ _ _ _ _ _ _ _ _ _ _ h152 =>
 kFA 0 x88 fun x154 =>
 kL1 x154 h152 fun x155 =>
 kEqI false x155 (qi 1) fun x156 =>
 jc (α := JT) (fun x157 h158 =>
 jc (α := JT) (fun x160 h161 =>
 jc (α := JT) (fun x163 h164 =>
 kPick x156 x163 qf fun x166 =>
 jc (α := JT) (fun x167 h168 =>
 jc (α := JT) (fun x170 h171 =>
 kPick x166 x170 qf fun x173 =>
 some (x173, h171)) fun j172 =>
 wtS x166 true (kCall X 50 [x167] h168 fun x174 h175 =>
 j172 x174 h175) (j172 u h168)) fun j169 =>
 wtS x166 true (kLA 49 x90 h164 fun x176 =>
 j169 x176 h164) (j169 u h164)) fun j165 =>
 wtS x156 true (kCall X 123 [x160] h161 fun x177 h178 =>
 j165 x177 h178) (j165 u h161)) fun j162 =>
 wtS x156 true (kLA 49 x157 h158 fun x179 =>
 j162 x179 h158) (j162 u h158)) fun j159 =>
 wtS x156 true (kFA 3 x88 fun x180 =>
 j159 x180 h152) (j159 u h152)) fun j153 =>
 brS x86 (kFA 2 x2 fun x181 =>
 kL1 x181 h82 fun x182 =>
 kIS 8 x182 (qi 0) fun x183 =>
 kFA 1 x183 fun x184 =>
 kL1 x184 h82 fun x185 =>
 kBin .sub x185 (qw 1) fun x186 =>
 kFA 40 x79 fun x187 =>
 kFA 1 x187 fun x188 =>
 kS1 x188 x186 h82 fun _ h190 =>
 j153 u x2 u x79 u u u u u u u u u u u u u u u u u u u u u u u u u u u u u u u u u u u u u u u u u u u u u u u u u u u u u u u u u u u u u h190) (j153 u x2 u x79 u u u u u u u u u u u u u u u u u u u u u u u u u u u u u u u u u u u u u u u u u u u u u u u u u u u u u u u u u u u u u h82))))
theorem p78_ok (k : Nat) : p78 k = funcS k 1 lit78 := by kernel_rfl
def p79 (_ : Nat) : CtxK → List V → TH → R := fun X => ap 1 (fun x0 h1 =>
 kNew (V.cellsR x0) h1 fun x2 h3 =>
 kFA 2 x2 fun x4 =>
 kLA 6 x4 h3 fun x5 =>
 kCall X 9 [x5] h3 fun x6 h7 =>
 jc (α := JT) (fun x8 h9 =>
 jc (α := JT) (fun x11 h12 =>
 jc (α := JT) (fun x14 h15 =>
 kPick x6 x14 qf fun x17 =>
 jc (α := JT) (fun x18 h19 =>
 jc (α := JT) (fun x21 h22 =>
 jc (α := JT) (fun x24 h25 =>
 kPick x17 x24 qf fun x27 =>
 jc (α := JT) (fun x28 h29 =>
 jc (α := JT) (fun x31 h32 =>
 jc (α := JT) (fun x34 h35 =>
 kPick x27 x34 qf fun x37 =>
 some (x37, h35)) fun j36 =>
 wtS x27 true (kBin .leq x31 (qw 60) fun x38 =>
 j36 x38 h32) (j36 u h32)) fun j33 =>
 wtS x27 true (kL1 x28 h29 fun x39 =>
 j33 x39 h29) (j33 u h29)) fun j30 =>
 wtS x27 true (kFA 0 x2 fun x40 =>
 j30 x40 h25) (j30 u h25)) fun j26 =>
 wtS x17 true (kBin .geq x21 (qw 1) fun x41 =>
 j26 x41 h22) (j26 u h22)) fun j23 =>
 wtS x17 true (kL1 x18 h19 fun x42 =>
 j23 x42 h19) (j23 u h19)) fun j20 =>
 wtS x17 true (kFA 0 x2 fun x43 =>
 j20 x43 h15) (j20 u h15)) fun j16 =>
 wtS x6 true (kBin .gtr x11 (qw 0) fun x44 =>
 j16 x44 h12) (j16 u h12)) fun j13 =>
 wtS x6 true (kL1 x8 h9 fun x45 =>
 j13 x45 h9) (j13 u h9)) fun j10 =>
 wtS x6 true (kFA 1 x2 fun x46 =>
 j10 x46 h7) (j10 u h7))
theorem p79_ok (k : Nat) : p79 k = funcS k 1 lit79 := by kernel_rfl
def p81 (_ : Nat) : CtxK → List V → TH → R := fun X => ap 1 (fun x0 h1 =>
 kNew (V.cellsR x0) h1 fun x2 h3 =>
 kFA 0 x2 fun x4 =>
 kL1 x4 h3 fun x5 =>
 kEqI false x5 (qb 15) fun x6 =>
 brS x6 (kFA 123 x2 fun x7 =>
 kLA 6 x7 h3 fun x8 =>
 kCall X 33 [x8] h3 fun x9 h10 =>
 jc (α := JT) (fun x11 h12 =>
 jc (α := JT) (fun x14 h15 =>
 jc (α := JT) (fun x17 h18 =>
 jc (α := JT) (fun x20 h21 =>
 jc (α := JT) (fun x23 h24 =>
 jc (α := JT) (fun x26 h27 =>
 jc (α := JT) (fun x29 h30 =>
 kPick x9 x29 qf fun x32 =>
 some (x32, h30)) fun j31 =>
 wtS x9 true (kEqI false x14 x26 fun x33 =>
 j31 x33 h27) (j31 u h27)) fun j28 =>
 wtS x9 true (kBin .add (qb 20) x23 fun x34 =>
 j28 x34 h24) (j28 u h24)) fun j25 =>
 wtS x9 true (kL1 x20 h21 fun x35 =>
 j25 x35 h21) (j25 u h21)) fun j22 =>
 wtS x9 true (kFA 0 x17 fun x36 =>
 j22 x36 h18) (j22 u h18)) fun j19 =>
 wtS x9 true (kFA 123 x2 fun x37 =>
 j19 x37 h15) (j19 u h15)) fun j16 =>
 wtS x9 true (kL1 x11 h12 fun x38 =>
 j16 x38 h12) (j16 u h12)) fun j13 =>
 wtS x9 true (kFA 1 x2 fun x39 =>
 j13 x39 h10) (j13 u h10)) (kEqI false x5 (qb 16) fun x40 =>
 brS x40 (kFA 123 x2 fun x41 =>
 kLA 6 x41 h3 fun x42 =>
 kCall X 33 [x42] h3 fun x43 h44 =>
 jc (α := JT) (fun x45 h46 =>
 jc (α := JT) (fun x48 h49 =>
 jc (α := JT) (fun x51 h52 =>
 jc (α := JT) (fun x54 h55 =>
 jc (α := JT) (fun x57 h58 =>
 jc (α := JT) (fun x60 h61 =>
 jc (α := JT) (fun x63 h64 =>
 kPick x43 x63 qf fun x66 =>
 some (x66, h64)) fun j65 =>
 wtS x43 true (kEqI false x48 x60 fun x67 =>
 j65 x67 h61) (j65 u h61)) fun j62 =>
 wtS x43 true (kBin .add (qb 20) x57 fun x68 =>
 j62 x68 h58) (j62 u h58)) fun j59 =>
 wtS x43 true (kL1 x54 h55 fun x69 =>
 j59 x69 h55) (j59 u h55)) fun j56 =>
 wtS x43 true (kFA 0 x51 fun x70 =>
 j56 x70 h52) (j56 u h52)) fun j53 =>
 wtS x43 true (kFA 123 x2 fun x71 =>
 j53 x71 h49) (j53 u h49)) fun j50 =>
 wtS x43 true (kL1 x45 h46 fun x72 =>
 j50 x72 h46) (j50 u h46)) fun j47 =>
 wtS x43 true (kFA 2 x2 fun x73 =>
 j47 x73 h44) (j47 u h44)) (kFA 123 x2 fun x74 =>
 kLA 6 x74 h3 fun x75 =>
 kCall X 33 [x75] h3 fun x76 h77 =>
 jc (α := JT) (fun x78 h79 =>
 jc (α := JT) (fun x81 h82 =>
 jc (α := JT) (fun x84 h85 =>
 jc (α := JT) (fun x87 h88 =>
 kPick x76 x87 qf fun x90 =>
 some (x90, h88)) fun j89 =>
 wtS x76 true (kEqI false x84 (qb 5) fun x91 =>
 j89 x91 h85) (j89 u h85)) fun j86 =>
 wtS x76 true (kL1 x81 h82 fun x92 =>
 j86 x92 h82) (j86 u h82)) fun j83 =>
 wtS x76 true (kFA 2 x78 fun x93 =>
 j83 x93 h79) (j83 u h79)) fun j80 =>
 wtS x76 true (kFA 123 x2 fun x94 =>
 j80 x94 h77) (j80 u h77))))
theorem p81_ok (k : Nat) : p81 k = funcS k 1 lit81 := by kernel_rfl
def p82 (_ : Nat) : CtxK → List V → TH → R := fun _ => ap 1 (fun x0 h1 =>
 kBin .shr x0 (.int .u64 33) fun x2 =>
 kBin .xor x0 x2 fun x3 =>
 kBin .mul x3 (.int .u64 18397679294719823053) fun x4 =>
 kBin .shr x4 (.int .u64 33) fun x5 =>
 kBin .xor x4 x5 fun x6 =>
 kBin .mul x6 (.int .u64 14181476777654086739) fun x7 =>
 kBin .shr x7 (.int .u64 33) fun x8 =>
 kBin .xor x7 x8 fun x9 =>
 some (x9, h1))
theorem p82_ok (k : Nat) : p82 k = funcS k 1 lit82 := by kernel_rfl
def p84 (_ : Nat) : CtxK → List V → TH → R := fun _ => ap 1 (fun x0 h1 =>
 kNew (V.cellsR x0) h1 fun x2 h3 =>
 some ((.fn 125 [] [x2]), h3))
theorem p84_ok (k : Nat) : p84 k = funcS k 1 lit84 := by kernel_rfl
def p88 (_ : Nat) : CtxK → List V → TH → R := fun X => ap 1 (fun x0 h1 =>
 kNew (V.cellsR x0) h1 fun x2 h3 =>
 kLA 16 x2 h3 fun x4 =>
 kCall X 127 [x4, (.fn 128 [] [])] h3 fun x5 h6 =>
 some (x5, h6))
theorem p88_ok (k : Nat) : p88 k = funcS k 1 lit88 := by kernel_rfl
def p95 (k : Nat) : CtxK → List V → TH → R := fun _ => ap 2 (fun x0 x1 h2 =>
 kLen x0 fun x3 =>
 lp (α := Cur 19) (zN 19) (fun n24 x4 x5 _ _ _ _ _ x11 x12 _ _ _ _ _ _ _ _ _ _ h23 =>
 kBin .lss x12 x11 fun x25 =>
 brS x25 (kIS 1 x4 x12 fun x26 =>
 kL1 x26 h23 fun x27 =>
 kEqI false x5 x27 fun x28 =>
 brS x28 (some (x12, h23)) (kBin .add x12 (qi 1) fun x29 =>
 n24 x4 x5 u u u u u x11 x29 u u u u u u u u u u h23)) (some ((.int .i64 (-1)), h23))) k x0 x1 u u u u u x3 (qi 0) u u u u u u u u u u h2)
theorem p95_ok (k : Nat) : p95 k = funcS k 2 lit95 := by kernel_rfl
def p96 (_ : Nat) : CtxK → List V → TH → R := fun X => ap 4 (fun x0 x1 x2 x3 h4 =>
 kNew (V.cellsR x2) h4 fun x5 h6 =>
 kL1 x5 h6 fun x7 =>
 kCall X 136 [x0, x1, x7, x3] h6 fun x8 h9 =>
 kLen x8 fun x10 =>
 kEqI false x10 (qi 0) fun x11 =>
 jc (α := JT) (fun x12 h13 =>
 jc (α := JT) (fun x15 h16 =>
 jc (α := JT) (fun x18 h19 =>
 jc (α := JT) (fun x21 h22 =>
 jc (α := JT) (fun x24 h25 =>
 jc (α := JT) (fun x27 h28 =>
 kPick x11 x27 qf fun x30 =>
 some (x30, h28)) fun j29 =>
 wtS x11 true (kNot x24 fun x31 =>
 j29 x31 h25) (j29 u h25)) fun j26 =>
 wtS x11 true (kCall X 137 [x18, x21] h22 fun x32 h33 =>
 j26 x32 h33) (j26 u h22)) fun j23 =>
 wtS x11 true (j23 (.fn 135 [] [x5]) h19) (j23 u h19)) fun j20 =>
 wtS x11 true (kCall X 12 [x12, x15] h16 fun x34 h35 =>
 j20 x34 h35) (j20 u h16)) fun j17 =>
 wtS x11 true (j17 x1 h13) (j17 u h13)) fun j14 =>
 wtS x11 true (j14 x0 h9) (j14 u h9))
theorem p96_ok (k : Nat) : p96 k = funcS k 4 lit96 := by kernel_rfl
def p108 (_ : Nat) : CtxK → List V → TH → R := fun X => ap 3 (fun x0 x1 x2 h3 =>
 kNew (V.cellsR x2) h3 fun x4 h5 =>
 kNilc x0 fun x6 =>
 kFA 1 x6 fun x7 =>
 kL1 x7 h5 fun x10 =>
 kEqI false x10 x1 fun x11 =>
 jc (α := JT) (fun x12 h13 =>
 jc (α := JT) (fun x15 h16 =>
 jc (α := JT) (fun x18 h19 =>
 jc (α := V → TH → PD → R) (fun x23 h24 d25 =>
 jc (α := V → TH → PD → R) (fun x29 h30 d31 =>
 jc (α := JT) (fun x33 h34 =>
 jc (α := JT) (fun x36 h37 =>
 kPick x11 x36 qf fun x39 =>
 dokS [h30, h34, h37] d31 (some (x39, h37))) fun j38 =>
 wtS x11 true (kCall X 54 [x23, x33] h34 fun x40 h41 =>
 j38 x40 h41) (j38 u h34)) fun j35 =>
 wtS x11 true (kCall X 104 [x29] h30 fun x42 h43 =>
 j35 x42 h43) (j35 u h30)) fun j32 =>
 wtS x11 true (kLA 131 x4 h24 fun x44 =>
 j32 x44 h24 d25) (j32 u h24 d25)) fun j26 =>
 wtS x11 true (kL1 x18 h19 fun x45 =>
 j26 x45 h19 ((fun h21 => kL1 x18 h21 fun x22 =>
 some (x22, h21), x45, 0, 1) :: [])) (j26 u h19 [])) fun j20 =>
 wtS x11 true (kFA 53 x15 fun x46 =>
 j20 x46 h16) (j20 u h16)) fun j17 =>
 wtS x11 true (kNilc x12 fun x47 =>
 j17 x47 h13) (j17 u h13)) fun j14 =>
 wtS x11 true (j14 x0 h5) (j14 u h5))
theorem p108_ok (k : Nat) : p108 k = funcS k 3 lit108 := by kernel_rfl
def p109 (_ : Nat) : CtxK → List V → TH → R := fun X => ap 1 (fun x0 h1 =>
 kNilc x0 fun x2 =>
 kFA 3 x2 fun x3 =>
 kLA 49 x3 h1 fun x4 =>
 kCall X 22 [x4] h1 fun x5 h6 =>
 kExt x5 0 fun _ =>
 kExt x5 1 fun x8 =>
 some (x8, h6))
theorem p109_ok (k : Nat) : p109 k = funcS k 1 lit109 := by kernel_rfl
def p110 (_ : Nat) : CtxK → List V → TH → R := fun X => ap 2 (fun x0 x1 h2 =>
 kNew (V.cellsR x0) h2 fun x3 h4 =>
 kCall X 137 [x1, (.fn 156 [] [x3])] h4 fun x5 h6 =>
 kNot x5 fun x7 =>
 some (x7, h6))
theorem p110_ok (k : Nat) : p110 k = funcS k 2 lit110 := by kernel_rfl
def p132 (k : Nat) : CtxK → List V → TH → R := fun _ => ap 1 (fun x0 h1 =>
 kNew (V.cellsR x0) h1 fun x2 h3 =>
 kFA 0 x2 fun x4 =>
 kL1 x4 h3 fun x5 =>
 kNot x5 fun x6 =>
 brS x6 (kLA 5 x2 h3 fun x7 =>
 kB [qf, qs, qs, qs, qs] [] fun x8 =>
 kEq' false (.agg [.bool, .str, .str, .str, .str]) x7 x8 fun x9 =>
 some (x9, h3)) (kFA 2 x2 fun x10 =>
 kLA 3 x10 h3 fun x11 =>
 lp (α := Cur 24) (zN 24) (fun n37 _ x13 _ _ _ _ _ _ _ _ _ _ x24 x25 _ _ _ _ _ _ _ _ _ _ h36 =>
 kBin .lss x25 (qi 3) fun x38 =>
 brS x38 (kIx 3 x24 x25 fun x39 =>
 kP (lenV true x39) fun x40 =>
 kBin .gtr x40 (qi 16) fun x41 =>
 brS x41 (some (qf, h36)) (kBin .add x25 (qi 1) fun x42 =>
 n37 u x13 u u u u u u u u u u x24 x42 u u u u u u u u u u h36)) (kFA 1 x13 fun x43 =>
 kL1 x43 h36 fun x44 =>
 kP (lenV true x44) fun x45 =>
 kBin .leq x45 (qi 16) fun x46 =>
 some (x46, h36))) k u x2 u u u u u u u u u u x11 (qi 0) u u u u u u u u u u h3))
theorem p132_ok (k : Nat) : p132 k = funcS k 1 lit132 := by kernel_rfl
def p137 (_ : Nat) : CtxK → List V → TH → R := fun X => ap 2 (fun x0 x1 h2 =>
 kCall X 126 [x0, x1] h2 fun x3 h4 =>
 kBin .geq x3 (qi 0) fun x5 =>
 some (x5, h4))
theorem p137_ok (k : Nat) : p137 k = funcS k 2 lit137 := by kernel_rfl
def p141 (k : Nat) : CtxK → List V → TH → R := fun _ => ap 1 (fun x0 h1 =>
 kNew (V.cellsR x0) h1 fun x2 h3 =>
 kFA 1 x2 fun x4 =>
 kLA 15 x4 h3 fun x5 =>
 lp (α := Cur 32) (zN 32) (fun n39 _ x7 _ _ _ _ x12 x13 _ _ _ _ _ _ _ _ _ _ _ _ _ _ _ _ _ _ _ _ _ _ _ _ h38 =>
 kBin .lss x13 (qi 5) fun x40 =>
 brS x40 (kP (indexE (some (5, 3, true)) x12 x13) fun x41 =>
 kNew [qf, (qi 0), (qb 0)] h38 fun x42 h43 =>
 kSA 3 x42 x41 h43 fun _ h45 =>
 kFA 1 x42 fun x46 =>
 kL1 x46 h45 fun x47 =>
 kBin .lss x47 (qi 0) fun x48 =>
 jc (α := JT) (fun x49 h50 =>
 jc (α := JT) (fun x52 h53 =>
 jc (α := JT) (fun x55 h56 =>
 kPick x48 qt x55 fun x58 =>
 jc (α := JT) (fun x59 h60 =>
 jc (α := JT) (fun x62 h63 =>
 jc (α := JT) (fun x65 h66 =>
 kPick x58 qt x65 fun x68 =>
 brS x68 (some (qf, h66)) (kBin .add x13 (qi 1) fun x69 =>
 n39 u x7 u u u u x12 x69 u u u u u u u u u u u u u u u u u u u u u u u u h66)) fun j67 =>
 wtS x58 false (kBin .geq x62 (qb 8) fun x70 =>
 j67 x70 h63) (j67 u h63)) fun j64 =>
 wtS x58 false (kL1 x59 h60 fun x71 =>
 j64 x71 h60) (j64 u h60)) fun j61 =>
 wtS x58 false (kFA 2 x42 fun x72 =>
 j61 x72 h56) (j61 u h56)) fun j57 =>
 wtS x48 false (kBin .gtr x52 (qi 16) fun x73 =>
 j57 x73 h53) (j57 u h53)) fun j54 =>
 wtS x48 false (kL1 x49 h50 fun x74 =>
 j54 x74 h50) (j54 u h50)) fun j51 =>
 wtS x48 false (kFA 1 x42 fun x75 =>
 j51 x75 h45) (j51 u h45)) (kFA 0 x7 fun x76 =>
 kL1 x76 h38 fun x77 =>
 kBin .geq x77 (qw 1) fun x78 =>
 jc (α := JT) (fun x79 h80 =>
 jc (α := JT) (fun x82 h83 =>
 jc (α := JT) (fun x85 h86 =>
 kPick x78 x85 qf fun x88 =>
 some (x88, h86)) fun j87 =>
 wtS x78 true (kBin .leq x82 (qw 60) fun x89 =>
 j87 x89 h83) (j87 u h83)) fun j84 =>
 wtS x78 true (kL1 x79 h80 fun x90 =>
 j84 x90 h80) (j84 u h80)) fun j81 =>
 wtS x78 true (kFA 0 x7 fun x91 =>
 j81 x91 h38) (j81 u h38))) k u x2 u u u u x5 (qi 0) u u u u u u u u u u u u u u u u u u u u u u u u h3)
theorem p141_ok (k : Nat) : p141 k = funcS k 1 lit141 := by kernel_rfl
def p173 (k : Nat) : CtxK → List V → TH → R := fun X => ap 2 (fun x0 x1 h2 =>
 kCall X 194 [x0, x1] h2 fun x3 h4 =>
 kEqI false x3 (.int .i64 (-1)) fun x5 =>
 brS x5 (some (x0, h4)) (kBin .add x3 (qi 1) fun x6 =>
 lp (α := Cur 42) (zN 42) (fun n50 x7 x8 _ _ _ x12 x13 _ _ _ _ _ _ _ _ _ _ _ _ _ _ _ _ _ _ _ _ _ _ _ _ _ _ _ _ _ _ _ _ _ _ _ h49 =>
 kLen x7 fun x51 =>
 kBin .lss x13 x51 fun x52 =>
 brS x52 (kIS 2 x7 x13 fun x53 =>
 kLA 2 x53 h49 fun x54 =>
 kNew [(qw 0), .nils] h49 fun x55 h56 =>
 kSA 2 x55 x54 h56 fun _ h58 =>
 kLA 2 x55 h58 fun x59 =>
 kCv X x8 [x59] h58 fun x60 h61 =>
 kNot x60 fun x62 =>
 jc (α := Cur 42) (fun x63 x64 _ _ _ x68 x69 _ _ _ _ _ _ _ _ _ _ _ _ _ _ _ _ _ _ _ _ _ _ _ _ _ _ _ _ _ _ _ _ _ _ _ h105 =>
 kBin .add x69 (qi 1) fun x107 =>
 n50 x63 x64 u u u x68 x107 u u u u u u u u u u u u u u u u u u u u u u u u u u u u u u u u u u u h105) fun j106 =>
 brS x62 (kLA 2 x55 h61 fun x108 =>
 kIS 2 x7 x12 fun x109 =>
 kSA 2 x109 x108 h61 fun _ h111 =>
 kBin .add x12 (qi 1) fun x112 =>
 j106 x7 x8 u u u x112 x13 u u u u u u u u u u u u u u u u u u u u u u u u u u u u u u u u u u u h111) (j106 x7 x8 u u u x12 x13 u u u u u u u u u u u u u u u u u u u u u u u u u u u u u u u u u u u h61)) (kP (sliceE 2 x7 (some x12) none) fun x113 =>
 kCl [(qw 0), .nils] 2 x113 h49 fun _ h115 =>
 kP (sliceE 2 x7 none (some x12)) fun x116 =>
 some (x116, h115))) k x0 x1 u u u x3 x6 u u u u u u u u u u u u u u u u u u u u u u u u u u u u u u u u u u u h4))
theorem p173_ok (k : Nat) : p173 k = funcS k 2 lit173 := by kernel_rfl
def p175 (k : Nat) : CtxK → List V → TH → R := fun X => ap 2 (fun x0 x1 h2 =>
 kLen x0 fun x3 =>
 lp (α := Cur 19) (zN 19) (fun n24 x4 x5 _ _ _ _ _ x11 x12 _ _ _ _ _ _ _ _ _ _ h23 =>
 kBin .lss x12 x11 fun x25 =>
 brS x25 (kIS 49 x4 x12 fun x26 =>
 kLA 49 x26 h23 fun x27 =>
 kCv X x5 [x27] h23 fun x28 h29 =>
 brS x28 (some (x12, h29)) (kBin .add x12 (qi 1) fun x30 =>
 n24 x4 x5 u u u u u x11 x30 u u u u u u u u u u h29)) (some ((.int .i64 (-1)), h23))) k x0 x1 u u u u u x3 (qi 0) u u u u u u u u u u h2)
theorem p175_ok (k : Nat) : p175 k = funcS k 2 lit175 := by kernel_rfl
def p201 (_ : Nat) : CtxK → List V → TH → R := fun X => ap 4 (fun x0 x1 x2 x3 h4 =>
 kConv .u32 x0 fun x5 =>
 kConv .u32 x1 fun x6 =>
 kConv .u32 x2 fun x7 =>
 kCall X 212 [x5, x6, x7] h4 fun x8 h9 =>
 kCall X 211 [x8, x3] h9 fun x10 h11 =>
 some (x10, h11))
theorem p201_ok (k : Nat) : p201 k = funcS k 4 lit201 := by kernel_rfl
def p212 (_ : Nat) : CtxK → List V → TH → R := fun X => ap 3 (fun x0 x1 x2 h3 =>
 kConv .u64 x0 fun x4 =>
 kCall X 82 [x4] h3 fun x5 h6 =>
 kConv .u64 x1 fun x7 =>
 kBin .add x5 x7 fun x8 =>
 kCall X 82 [x8] h6 fun x9 h10 =>
 kConv .u64 x2 fun x11 =>
 kBin .add x9 x11 fun x12 =>
 kCall X 82 [x12] h10 fun x13 h14 =>
 kConv .u32 x13 fun x15 =>
 some (x15, h14))
theorem p212_ok (k : Nat) : p212 k = funcS k 3 lit212 := by kernel_rfl
def p229 (_ : Nat) : CtxK → List V → TH → R := fun _ => ap 1 (fun x0 h1 =>
 kNilc x0 fun x2 =>
 kFA 0 x2 fun x3 =>
 kL1 x3 h1 fun x6 =>
 kNilc x0 fun x7 =>
 kFA 0 x7 fun x8 =>
 kL1 x8 h1 fun x11 =>
 kBin .mul x6 x11 fun x12 =>
 kBin .shr x12 (.int .u64 31) fun x13 =>
 kNilc x0 fun x14 =>
 kFA 0 x14 fun x15 =>
 kS1 x15 x13 h1 fun _ h17 =>
 dokS [h1, h17] [] (kNilc x0 fun x18 =>
 kFA 1 x18 fun x19 =>
 kL1 x19 h17 fun x20 =>
 kBin .shl x20 (.int .u64 1) fun x21 =>
 kNilc x0 fun x22 =>
 kFA 1 x22 fun x23 =>
 kS1 x23 x21 h17 fun _ h25 =>
 kNilc x0 fun x26 =>
 kFA 0 x26 fun x27 =>
 kL1 x27 h25 fun x28 =>
 kBin .geq x28 (.int .u64 4294967296) fun x29 =>
 jc (α := Cur 41) (fun _ _ _ _ _ _ _ _ _ _ _ _ _ _ _ _ _ _ _ _ _ _ _ _ _ _ _ _ _ _ _ _ _ _ _ _ _ _ _ _ _ h71 =>
 some (.tup [], h71)) fun j72 =>
 brS x29 (kNilc x0 fun x73 =>
 kFA 0 x73 fun x74 =>
 kL1 x74 h25 fun x75 =>
 kBin .shr x75 (.int .u64 1) fun x76 =>
 kNilc x0 fun x77 =>
 kFA 0 x77 fun x78 =>
 kS1 x78 x76 h25 fun _ h80 =>
 kNilc x0 fun x81 =>
 kFA 1 x81 fun x82 =>
 kL1 x82 h80 fun x83 =>
 kBin .or x83 (qi 1) fun x84 =>
 kNilc x0 fun x85 =>
 kFA 1 x85 fun x86 =>
 kS1 x86 x84 h80 fun _ h88 =>
 j72 u u u u u u u u u u u u u u u u u u u u u u u u u u u u u u u u u u u u u u u u u h88) (j72 u u u u u u u u u u u u u u u u u u u u u u u u u u u u u u u u u u u u u u u u u h25)))
theorem p229_ok (k : Nat) : p229 k = funcS k 1 lit229 := by kernel_rfl
end
end Go.PE
