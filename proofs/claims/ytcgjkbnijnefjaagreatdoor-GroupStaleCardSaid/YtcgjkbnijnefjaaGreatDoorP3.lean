/- The same functions with names for their slots (part 3 of 4), printed by a program of our own: each is what the evaluator's law says of the literal. -/
import Derived.Test.YtcgjkbnijnefjaaGreatDoorL3
import Derived.KernelRfl
namespace Go.PE
set_option maxRecDepth 100000
noncomputable section
def p9 (_ : Nat) : CtxK → List V → TH → R := fun X => ap 1 (fun x0 h1 =>
 kNew (V.cellsR x0) h1 fun x2 h3 =>
 kLA 6 x2 h3 fun x4 =>
 kCall X 33 [x4] h3 fun x5 h6 =>
 jc (α := JT) (fun x7 h8 =>
 jc (α := JT) (fun x10 h11 =>
 jc (α := JT) (fun x13 h14 =>
 kPick x5 x13 qf fun x16 =>
 some (x16, h14)) fun j15 =>
 wtS x5 true (kEqI true x10 (qb 5) fun x17 =>
 j15 x17 h11) (j15 u h11)) fun j12 =>
 wtS x5 true (kL1 x7 h8 fun x18 =>
 j12 x18 h8) (j12 u h8)) fun j9 =>
 wtS x5 true (kFA 2 x2 fun x19 =>
 j9 x19 h6) (j9 u h6))
theorem p9_ok (k : Nat) : p9 k = funcS k 1 lit9 := by kernel_rfl
def p10 (k : Nat) : CtxK → List V → TH → R := fun X => ap 2 (fun x0 x1 h2 =>
 kNew (V.cellsR x1) h2 fun x3 h4 =>
 kCall X 29 [] h4 fun x5 h6 =>
 kBin .rem x0 (qb 4) fun x7 =>
 kB [.nilptr, (qb 0), .nilptr, .nilptr, .nilptr, .nilptr, .nilptr, .nils, .nils] [(0, 1, x5), (1, 1, x7)] fun x8 =>
 kNew (V.cellsR x8) h6 fun x9 h10 =>
 lp (α := Cur 50) (zN 50) (fun n62 _ _ _ x14 _ x16 x17 _ _ _ _ _ _ _ _ _ _ _ _ _ _ _ _ _ _ _ _ _ _ _ _ _ _ _ _ _ _ _ _ _ _ _ _ _ _ _ _ _ _ _ h61 =>
 kBin .lss x17 (qi 5) fun x63 =>
 brS x63 (kNilc x16 fun x64 =>
 kFA 1 x64 fun x65 =>
 kL1 x65 h61 fun x68 =>
 kIA 5 49 x14 x17 fun x69 =>
 kLA 49 x69 h61 fun x72 =>
 kNilc x16 fun x73 =>
 kFA 2 x73 fun x74 =>
 kCall X 24 [x17, x68, x72] h61 fun x75 h76 =>
 kIA 5 1 x74 x17 fun x77 =>
 kS1 x77 x75 h76 fun _ h79 =>
 dokS [h61, h76, h79] [] (kNilc x16 fun x80 =>
 kFA 7 x80 fun x81 =>
 kL1 x81 h79 fun x84 =>
 kNilc x16 fun x85 =>
 kFA 2 x85 fun x86 =>
 kIA 5 1 x86 x17 fun x87 =>
 kL1 x87 h79 fun x90 =>
 kNilc x16 fun x91 =>
 kFA 0 x91 fun x92 =>
 kL1 x92 h79 fun x95 =>
 kCall X 25 [x90, x95] h79 fun x96 h97 =>
 kAp 131 1400 x84 x96 h97 fun x98 h99 =>
 kNilc x16 fun x100 =>
 kFA 7 x100 fun x101 =>
 kS1 x101 x98 h99 fun _ h103 =>
 dokS [h79, h97, h99, h103] ((fun h82 => kL1 x81 h82 fun x83 =>
 some (x83, h82), x84, 0, 1) :: []) (kBin .add x17 (qi 1) fun x104 =>
 n62 u u u x14 u x16 x104 u u u u u u u u u u u u u u u u u u u u u u u u u u u u u u u u u u u u u u u u u u u h103))) (some (x16, h61))) k u u u x3 u x9 (qi 0) u u u u u u u u u u u u u u u u u u u u u u u u u u u u u u u u u u u u u u u u u u u h10)
theorem p10_ok (k : Nat) : p10 k = funcS k 2 lit10 := by kernel_rfl
def p23 (_ : Nat) : CtxK → List V → TH → R := fun X => ap 1 (fun x0 h1 =>
 kNew (V.cellsR x0) h1 fun x2 h3 =>
 kNew zr6 h3 fun x4 h5 =>
 kLA 49 x2 h5 fun x6 =>
 kCall X 50 [x6] h5 fun x7 h8 =>
 kNot x7 fun x9 =>
 brS x9 (kB zr6 [] fun x10 =>
 kSA 39 x4 x10 h8 fun _ h12 =>
 rsS [.cell 2 true 39] [x0, x2, x4, x6, x7, x9, x10, u, u, u, u, u, u] h12) (kLA 49 x2 h8 fun x13 =>
 kFA 48 x2 fun x14 =>
 kL1 x14 h8 fun x15 =>
 kLen x15 fun x16 =>
 kCall X 52 [x13, x16] h8 fun x17 h18 =>
 kP (fieldE true 1 39 x17) fun x19 =>
 kSA 39 x4 x19 h18 fun _ h21 =>
 rsS [.cell 2 true 39] [x0, x2, x4, x6, x7, x9, u, x13, x14, x15, x16, x17, x19] h21))
theorem p23_ok (k : Nat) : p23 k = funcS k 1 lit23 := by kernel_rfl
def p24 (_ : Nat) : CtxK → List V → TH → R := fun X => ap 3 (fun x0 x1 x2 h3 =>
 kNew (V.cellsR x2) h3 fun x4 h5 =>
 kLA 49 x4 h5 fun x6 =>
 kCall X 36 [x6] h5 fun x7 h8 =>
 kB zr8 [(0, 1, x0), (2, 1, x1), (3, 49, x7)] fun x9 =>
 kNew (V.cellsR x9) h8 fun x10 h11 =>
 some (x10, h11))
theorem p24_ok (k : Nat) : p24 k = funcS k 3 lit24 := by kernel_rfl
def p31 (k : Nat) : CtxK → List V → TH → R := fun X => ap 1 (fun x0 h1 =>
 kNilc x0 fun x2 =>
 kFA 1 x2 fun x3 =>
 kL1 x3 h1 fun x4 =>
 kEqI false x4 (qi 2) fun x5 =>
 jc (α := Cur 78) (fun x6 _ _ x9 _ _ _ _ _ _ _ _ _ _ _ _ _ _ _ _ _ _ _ _ _ _ _ _ _ _ _ _ _ _ _ _ _ _ _ _ _ _ _ _ _ _ _ _ _ _ _ _ _ _ _ _ _ _ _ _ _ _ _ _ _ _ _ _ _ _ _ _ _ _ _ _ _ _ h84 =>
 kNilc x6 fun x86 =>
 kFA 309 x86 fun x87 =>
 kL1 x87 h84 fun x88 =>
 kLen x88 fun x89 =>
 lp (α := Cur 78) (zN 78) (fun n169 x90 _ _ x93 _ _ _ _ _ _ _ _ _ _ _ _ _ _ _ _ _ _ _ _ _ _ _ _ _ _ _ _ _ _ _ _ _ x127 x128 x129 _ _ _ _ _ _ _ _ _ _ _ _ _ _ _ _ _ _ _ _ _ _ _ _ _ _ _ _ _ _ _ _ _ _ _ _ _ _ h168 =>
 kBin .lss x129 x128 fun x170 =>
 brS x170 (kIS 15 x127 x129 fun x171 =>
 kLA 15 x171 h168 fun x172 =>
 kNew zr7 h168 fun x173 h174 =>
 kSA 15 x173 x172 h174 fun _ h176 =>
 kNilc x90 fun x177 =>
 kFA 53 x177 fun x178 =>
 kL1 x178 h176 fun x181 =>
 kFA 10 x173 fun x182 =>
 kLA 5 x182 h176 fun x185 =>
 kCall X 42 [x181, x185] h176 fun x186 h187 =>
 kAp 1 8 x93 x186 h187 fun x188 h189 =>
 dokS [h176, h187, h189] [] (kBin .add x129 (qi 1) fun x190 =>
 n169 x90 u u x188 u u u u u u u u u u u u u u u u u u u u u u u u u u u u u u u u u x127 x128 x190 u u u u u u u u u u u u u u u u u u u u u u u u u u u u u u u u u u u u u u h189)) (kNilc x90 fun x191 =>
 kFA 310 x191 fun x192 =>
 kLA 42 x192 h168 fun x193 =>
 lp (α := Cur 78) (zN 78) (fun n273 x194 _ _ x197 _ _ _ _ _ _ _ _ _ _ _ _ _ _ _ _ _ _ _ _ _ _ _ _ _ _ _ _ _ _ _ _ _ _ _ _ _ _ _ _ _ _ _ _ _ _ _ _ _ _ _ _ x250 x251 _ _ _ _ _ _ _ _ _ _ _ _ _ _ _ _ _ _ _ _ h272 =>
 kBin .lss x251 (qi 3) fun x274 =>
 brS x274 (kP (indexE (some (3, 14, true)) x250 x251) fun x275 =>
 kNew [(qb 0), (qw 0), (qb 0), (qb 0), (qb 0), qs, (qb 0), qs, (qw 0), qf, qf, qf, qf, qf] h272 fun x276 h277 =>
 kSA 14 x276 x275 h277 fun _ h279 =>
 kFA 0 x276 fun x280 =>
 kFA 1 x280 fun x281 =>
 kL1 x281 h279 fun x282 =>
 kBin .gtr x282 (qw 0) fun x283 =>
 jc (α := Cur 78) (fun x284 _ _ x287 _ _ _ _ _ _ _ _ _ _ _ _ _ _ _ _ _ _ _ _ _ _ _ _ _ _ _ _ _ _ _ _ _ _ _ _ _ _ _ _ _ _ _ _ _ _ _ _ _ _ _ _ x340 x341 _ _ _ _ _ _ _ _ _ _ _ _ _ _ _ _ _ _ _ _ h362 =>
 kBin .add x341 (qi 1) fun x364 =>
 n273 x284 u u x287 u u u u u u u u u u u u u u u u u u u u u u u u u u u u u u u u u u u u u u u u u u u u u u u u u u u u x340 x364 u u u u u u u u u u u u u u u u u u u u h362) fun j363 =>
 brS x283 (kNilc x194 fun x365 =>
 kFA 53 x365 fun x366 =>
 kL1 x366 h279 fun x369 =>
 kFA 9 x276 fun x370 =>
 kLA 5 x370 h279 fun x373 =>
 kCall X 42 [x369, x373] h279 fun x374 h375 =>
 kAp 1 8 x197 x374 h375 fun x376 h377 =>
 dokS [h279, h375, h377] [] (j363 x194 u u x376 u u u u u u u u u u u u u u u u u u u u u u u u u u u u u u u u u u u u u u u u u u u u u u u u u u u u x250 x251 u u u u u u u u u u u u u u u u u u u u h377)) (j363 x194 u u x197 u u u u u u u u u u u u u u u u u u u u u u u u u u u u u u u u u u u u u u u u u u u u u u u u u u u u x250 x251 u u u u u u u u u u u u u u u u u u u u h279)) (kCall X 61 [x197] h272 fun _ h379 =>
 kCall X 62 [x197] h379 fun x380 h381 =>
 some (x380, h381))) k x90 u u x93 u u u u u u u u u u u u u u u u u u u u u u u u u u u u u u u u u u u u u u u u u u u u u u u u u u u u x193 (qi 0) u u u u u u u u u u u u u u u u u u u u h168)) k x6 u u x9 u u u u u u u u u u u u u u u u u u u u u u u u u u u u u u u u u x88 x89 (qi 0) u u u u u u u u u u u u u u u u u u u u u u u u u u u u u u u u u u u u u u h84) fun j85 =>
 brS x5 (kNilc x0 fun x382 =>
 kFA 53 x382 fun x383 =>
 kL1 x383 h1 fun x386 =>
 kNilc x0 fun x387 =>
 kFA 54 x387 fun x388 =>
 kLA 5 x388 h1 fun x391 =>
 kCall X 42 [x386, x391] h1 fun x392 h393 =>
 dokS [h1, h393] [] (j85 x0 u u x392 u u u u u u u u u u u u u u u u u u u u u u u u u u u u u u u u u u u u u u u u u u u u u u u u u u u u u u u u u u u u u u u u u u u u u u u u u u h393)) (kEqI false x4 (qi 3) fun x394 =>
 jc (α := Cur 78) (fun x395 _ _ x398 _ _ _ _ _ _ _ _ _ _ _ _ _ _ _ _ _ _ _ _ _ _ _ _ _ _ _ _ _ _ _ _ _ _ _ _ _ _ _ _ _ _ _ _ _ _ _ _ _ _ _ _ _ _ _ _ _ _ _ _ _ _ _ _ _ _ _ _ _ _ _ _ _ _ h473 =>
 j85 x395 u u x398 u u u u u u u u u u u u u u u u u u u u u u u u u u u u u u u u u u u u u u u u u u u u u u u u u u u u u u u u u u u u u u u u u u u u u u u u u u h473) fun j474 =>
 brS x394 (kNilc x0 fun x475 =>
 kFA 53 x475 fun x476 =>
 kL1 x476 h1 fun x479 =>
 kNilc x0 fun x480 =>
 kFA 59 x480 fun x481 =>
 kLA 5 x481 h1 fun x484 =>
 kCall X 42 [x479, x484] h1 fun x485 h486 =>
 dokS [h1, h486] [] (j474 x0 u u x485 u u u u u u u u u u u u u u u u u u u u u u u u u u u u u u u u u u u u u u u u u u u u u u u u u u u u u u u u u u u u u u u u u u u u u u u u u u h486)) (j474 x0 u u .nils u u u u u u u u u u u u u u u u u u u u u u u u u u u u u u u u u u u u u u u u u u u u u u u u u u u u u u u u u u u u u u u u u u u u u u u u u u h1)))
theorem p31_ok (k : Nat) : p31 k = funcS k 1 lit31 := by kernel_rfl
def p37 (_ : Nat) : CtxK → List V → TH → R := fun _ => ap 2 (fun x0 x1 h2 =>
 kEqI false x1 (qb 7) fun x3 =>
 brS x3 (some ((.fn 63 [x0] []), h2)) (kEqI false x1 (qb 8) fun x4 =>
 brS x4 (some ((.fn 64 [x0] []), h2)) (kEqI false x1 (qb 9) fun x5 =>
 brS x5 (some ((.fn 65 [x0] []), h2)) (kEqI false x1 (qb 10) fun x6 =>
 brS x6 (some ((.fn 66 [x0] []), h2)) (kEqI false x1 (qb 11) fun x7 =>
 brS x7 (some ((.fn 67 [x0] []), h2)) (kEqI false x1 (qb 12) fun x8 =>
 brS x8 (some ((.fn 68 [x0] []), h2)) (kEqI false x1 (qb 13) fun x9 =>
 brS x9 (some ((.fn 69 [x0] []), h2)) (kEqI false x1 (qb 14) fun x10 =>
 brS x10 (some ((.fn 70 [x0] []), h2)) (kEqI false x1 (qb 15) fun x11 =>
 brS x11 (some ((.fn 71 [x0] []), h2)) (some (.nilfn, h2)))))))))))
theorem p37_ok (k : Nat) : p37 k = funcS k 2 lit37 := by kernel_rfl
def p44 (_ : Nat) : CtxK → List V → TH → R := fun X => ap 2 (fun x0 x1 h2 =>
 kNew zr1 h2 fun x3 h4 =>
 kCall X 89 [x0, (qb 7), x1] h4 fun x5 h6 =>
 kSA 131 x3 x5 h6 fun _ h8 =>
 rsS [.cell 4 true 131] [x0, x1, u, u, x3, x0, x1, x5] h8)
theorem p44_ok (k : Nat) : p44 k = funcS k 2 lit44 := by kernel_rfl
def p50 (k : Nat) : CtxK → List V → TH → R := fun X => ap 1 (fun x0 h1 =>
 kNew (V.cellsR x0) h1 fun x2 h3 =>
 kFA 0 x2 fun x4 =>
 kL1 x4 h3 fun x5 =>
 kBin .gtr x5 (qw 60) fun x6 =>
 jc (α := JT) (fun x7 h8 =>
 jc (α := JT) (fun x10 h11 =>
 jc (α := JT) (fun x13 h14 =>
 jc (α := JT) (fun x16 h17 =>
 kPick x6 qt x16 fun x19 =>
 jc (α := JT) (fun x20 h21 =>
 jc (α := JT) (fun x23 h24 =>
 jc (α := JT) (fun x26 h27 =>
 jc (α := JT) (fun x29 h30 =>
 jc (α := JT) (fun x32 h33 =>
 kPick x19 qt x32 fun x35 =>
 jc (α := JT) (fun x36 h37 =>
 jc (α := JT) (fun x39 h40 =>
 jc (α := JT) (fun x42 h43 =>
 jc (α := JT) (fun x45 h46 =>
 kPick x35 qt x45 fun x48 =>
 jc (α := JT) (fun x49 h50 =>
 jc (α := JT) (fun x52 h53 =>
 jc (α := JT) (fun x55 h56 =>
 jc (α := JT) (fun x58 h59 =>
 kPick x48 qt x58 fun x61 =>
 brS x61 (some (qf, h59)) (kFA 40 x2 fun x62 =>
 kLA 8 x62 h59 fun x63 =>
 kNew zr2 h59 fun x64 h65 =>
 kSA 8 x64 x63 h65 fun _ h67 =>
 kFA 48 x2 fun x68 =>
 kL1 x68 h67 fun x69 =>
 kLen x69 fun x70 =>
 lp (α := Cur 49) (zN 49) (fun n121 _ _ _ x74 _ _ _ _ _ _ _ _ _ _ _ _ _ _ _ _ _ _ _ _ _ _ _ _ _ _ _ _ _ _ _ _ _ x108 x109 x110 _ _ _ _ _ _ _ _ _ h120 =>
 kBin .lss x110 x109 fun x122 =>
 brS x122 (kIS 8 x108 x110 fun x123 =>
 kLA 8 x123 h120 fun x124 =>
 kNew zr2 h120 fun x125 h126 =>
 kSA 8 x125 x124 h126 fun _ h128 =>
 kLA 8 x74 h128 fun x129 =>
 kLA 8 x125 h128 fun x130 =>
 kCall X 92 [x129, x130] h128 fun x131 h132 =>
 kNot x131 fun x133 =>
 brS x133 (some (qf, h132)) (kLA 8 x125 h132 fun x134 =>
 kSA 8 x74 x134 h132 fun _ h136 =>
 kBin .add x110 (qi 1) fun x137 =>
 n121 u u u x74 u u u u u u u u u u u u u u u u u u u u u u u u u u u u u u u u u x108 x109 x137 u u u u u u u u u h136)) (some (qt, h120))) k u u u x64 u u u u u u u u u u u u u u u u u u u u u u u u u u u u u u u u u x69 x70 (qi 0) u u u u u u u u u h67)) fun j60 =>
 wtS x48 false (kNot x55 fun x138 =>
 j60 x138 h56) (j60 u h56)) fun j57 =>
 wtS x48 false (kCall X 91 [x52] h53 fun x139 h140 =>
 j57 x139 h140) (j57 u h53)) fun j54 =>
 wtS x48 false (kLA 39 x49 h50 fun x141 =>
 j54 x141 h50) (j54 u h50)) fun j51 =>
 wtS x48 false (kFA 1 x2 fun x142 =>
 j51 x142 h46) (j51 u h46)) fun j47 =>
 wtS x35 false (kBin .gtr x42 (qi 6) fun x143 =>
 j47 x143 h43) (j47 u h43)) fun j44 =>
 wtS x35 false (kLen x39 fun x144 =>
 j44 x144 h40) (j44 u h40)) fun j41 =>
 wtS x35 false (kL1 x36 h37 fun x145 =>
 j41 x145 h37) (j41 u h37)) fun j38 =>
 wtS x35 false (kFA 48 x2 fun x146 =>
 j38 x146 h33) (j38 u h33)) fun j34 =>
 wtS x19 false (kEq' true (.agg [.int, .int, .int, .int, .int, .str]) x26 x29 fun x147 =>
 j34 x147 h30) (j34 u h30)) fun j31 =>
 wtS x19 false (kB [(qb 0), (qw 0), (qb 0), (qb 0), (qb 0), qs] [] fun x148 =>
 j31 x148 h27) (j31 u h27)) fun j28 =>
 wtS x19 false (kLA 6 x23 h24 fun x149 =>
 j28 x149 h24) (j28 u h24)) fun j25 =>
 wtS x19 false (kFA 2 x20 fun x150 =>
 j25 x150 h21) (j25 u h21)) fun j22 =>
 wtS x19 false (kFA 40 x2 fun x151 =>
 j22 x151 h17) (j22 u h17)) fun j18 =>
 wtS x6 false (kBin .gtr x13 (qw 60) fun x152 =>
 j18 x152 h14) (j18 u h14)) fun j15 =>
 wtS x6 false (kL1 x10 h11 fun x153 =>
 j15 x153 h11) (j15 u h11)) fun j12 =>
 wtS x6 false (kFA 0 x7 fun x154 =>
 j12 x154 h8) (j12 u h8)) fun j9 =>
 wtS x6 false (kFA 40 x2 fun x155 =>
 j9 x155 h3) (j9 u h3))
theorem p50_ok (k : Nat) : p50 k = funcS k 1 lit50 := by kernel_rfl
def p51 (_ : Nat) : CtxK → List V → TH → R := fun _ => ap 1 (fun x0 h1 =>
 kNew (V.cellsR x0) h1 fun x2 h3 =>
 kNew zr2 h3 fun x4 h5 =>
 kFA 48 x2 fun x6 =>
 kL1 x6 h5 fun x7 =>
 kLen x7 fun x8 =>
 kEqI false x8 (qi 0) fun x9 =>
 brS x9 (kFA 40 x2 fun x10 =>
 kLA 8 x10 h5 fun x11 =>
 kSA 8 x4 x11 h5 fun _ h13 =>
 rsS [.cell 2 true 8] [x0, x2, x4, x6, x7, x8, x9, x10, x11, u, u, u, u, u, u, u, u] h13) (kFA 48 x2 fun x14 =>
 kL1 x14 h5 fun x15 =>
 kFA 48 x2 fun x16 =>
 kL1 x16 h5 fun x17 =>
 kLen x17 fun x18 =>
 kBin .sub x18 (qi 1) fun x19 =>
 kIS 8 x15 x19 fun x20 =>
 kLA 8 x20 h5 fun x21 =>
 kSA 8 x4 x21 h5 fun _ h23 =>
 rsS [.cell 2 true 8] [x0, x2, x4, x6, x7, x8, x9, u, u, x14, x15, x16, x17, x18, x19, x20, x21] h23))
theorem p51_ok (k : Nat) : p51 k = funcS k 1 lit51 := by kernel_rfl
def p54 (_ : Nat) : CtxK → List V → TH → R := fun X => ap 2 (fun x0 x1 h2 =>
 kCall X 95 [x0, x1] h2 fun x3 h4 =>
 kBin .geq x3 (qi 0) fun x5 =>
 some (x5, h4))
theorem p54_ok (k : Nat) : p54 k = funcS k 2 lit54 := by kernel_rfl
def p58 (_ : Nat) : CtxK → List V → TH → R := fun _ => ap 1 (fun x0 h1 =>
 kNilc x0 fun x2 =>
 kFA 2 x2 fun x3 =>
 kL1 x3 h1 fun x4 =>
 some (x4, h1))
theorem p58_ok (k : Nat) : p58 k = funcS k 1 lit58 := by kernel_rfl
def p68 (k : Nat) : CtxK → List V → TH → R := fun X => ap 3 (fun x0 _ x2 h3 =>
 kNew (V.cellsR x2) h3 fun x4 h5 =>
 kLA 131 x4 h5 fun x6 =>
 kCall X 108 [x0, (qi 4), x6] h5 fun x7 h8 =>
 kNot x7 fun x9 =>
 brS x9 (some (.nils, h8)) (kNilc x0 fun x10 =>
 kFA 309 x10 fun x11 =>
 kL1 x11 h8 fun x12 =>
 kLen x12 fun x13 =>
 lp (α := Cur 96) (zN 96) (fun n111 x14 _ _ _ _ x19 _ _ _ _ _ _ _ _ _ _ _ x31 x32 _ _ _ _ _ _ _ _ _ _ _ _ _ _ _ _ _ _ _ _ _ _ _ _ _ _ _ _ _ _ _ _ _ _ _ _ _ _ _ _ _ _ _ _ _ _ _ _ _ _ _ _ _ _ _ _ _ _ _ _ _ _ _ _ _ _ _ _ _ _ _ _ _ _ _ _ _ h110 =>
 kBin .lss x32 x31 fun x112 =>
 brS x112 (kNilc x14 fun x113 =>
 kFA 309 x113 fun x114 =>
 kL1 x114 h110 fun x117 =>
 kIS 15 x117 x32 fun x118 =>
 kFA 0 x118 fun x119 =>
 kFA 1 x119 fun x120 =>
 kL1 x120 h110 fun x123 =>
 kFA 122 x19 fun x124 =>
 kL1 x124 h110 fun x127 =>
 kBin .leq x123 x127 fun x128 =>
 dokS [h110] [] (jc (α := Cur 96) (fun x129 _ _ _ _ x134 _ _ _ _ _ _ _ _ _ _ _ x146 x147 _ _ _ _ _ _ _ _ _ _ _ _ _ _ _ _ _ _ _ _ _ _ _ _ _ _ _ _ _ _ _ _ _ _ _ _ _ _ _ _ _ _ _ _ _ _ _ _ _ _ _ _ _ _ _ _ _ _ _ _ _ _ _ _ _ _ _ _ _ _ _ _ _ _ _ _ _ h225 =>
 kBin .add x147 (qi 1) fun x227 =>
 n111 x129 u u u u x134 u u u u u u u u u u u x146 x227 u u u u u u u u u u u u u u u u u u u u u u u u u u u u u u u u u u u u u u u u u u u u u u u u u u u u u u u u u u u u u u u u u u u u u u u u u u u u u h225) fun j226 =>
 brS x128 (kNilc x14 fun x228 =>
 kFA 309 x228 fun x229 =>
 kL1 x229 h110 fun x232 =>
 kLA 131 x19 h110 fun x235 =>
 kIS 15 x232 x32 fun x236 =>
 kFA 10 x236 fun x237 =>
 kCall X 104 [x235] h110 fun x238 h239 =>
 kIA 5 1 x237 x238 fun x240 =>
 kS1 x240 qt h239 fun _ h242 =>
 dokS [h110, h239, h242] ((fun h230 => kL1 x229 h230 fun x231 =>
 some (x231, h230), x232, 0, 1) :: []) (j226 x14 u u u u x19 u u u u u u u u u u u x31 x32 u u u u u u u u u u u u u u u u u u u u u u u u u u u u u u u u u u u u u u u u u u u u u u u u u u u u u u u u u u u u u u u u u u u u u u u u u u u u u h242)) (j226 x14 u u u u x19 u u u u u u u u u u u x31 x32 u u u u u u u u u u u u u u u u u u u u u u u u u u u u u u u u u u u u u u u u u u u u u u u u u u u u u u u u u u u u u u u u u u u u u u u u u u u u u h110))) (lp (α := Cur 96) (zN 96) (fun n340 x243 _ _ _ _ _ _ _ x251 _ _ _ _ _ _ _ _ _ _ _ _ _ _ _ _ _ _ _ _ _ _ _ _ _ _ _ _ _ _ _ _ _ _ _ _ _ _ _ _ _ _ _ _ _ _ _ _ _ _ _ _ _ _ _ _ _ _ _ _ _ _ _ _ _ _ _ _ _ _ _ _ _ _ _ _ _ _ _ _ _ _ _ _ _ _ _ h339 =>
 kNilc x243 fun x341 =>
 kFA 309 x341 fun x342 =>
 kL1 x342 h339 fun x345 =>
 kLen x345 fun x346 =>
 kBin .gtr x346 (qi 0) fun x347 =>
 jc (α := JT) (fun x348 h349 =>
 jc (α := JT) (fun x351 h352 =>
 jc (α := JT) (fun x354 h355 =>
 jc (α := V → TH → PD → R) (fun x359 h360 d361 =>
 jc (α := JT) (fun x363 h364 =>
 jc (α := JT) (fun x366 h367 =>
 jc (α := V → TH → PD → R) (fun x371 h372 d373 =>
 jc (α := JT) (fun x375 h376 =>
 jc (α := JT) (fun x378 h379 =>
 jc (α := JT) (fun x381 h382 =>
 jc (α := V → TH → PD → R) (fun x386 h387 d388 =>
 jc (α := JT) (fun x390 h391 =>
 kPick x347 x390 qf fun x393 =>
 dokS [h387, h391] d388 (brS x393 (kNilc x243 fun x394 =>
 kFA 309 x394 fun x395 =>
 kL1 x395 h391 fun x398 =>
 kIS 15 x398 (qi 0) fun x399 =>
 kFA 0 x399 fun x400 =>
 kFA 2 x400 fun x401 =>
 kLA 6 x401 h391 fun x404 =>
 kNilc x243 fun x405 =>
 kFA 309 x405 fun x406 =>
 kL1 x406 h391 fun x409 =>
 kIS 15 x409 (qi 0) fun x410 =>
 kFA 8 x410 fun x411 =>
 kLA 2 x411 h391 fun x414 =>
 kCall X 112 [x243, x404, x414] h391 fun x415 h416 =>
 kBS 131 zr1 1 [(0, 131, x415)] h416 fun x417 h418 =>
 kAp 131 1400 x251 x417 h418 fun x419 h420 =>
 dokS [h391, h418, h420] [] (kNilc x243 fun x421 =>
 kFA 309 x421 fun x422 =>
 kL1 x422 h420 fun x423 =>
 kP (sliceE 15 x423 (some (qi 1)) none) fun x424 =>
 kNilc x243 fun x425 =>
 kFA 309 x425 fun x426 =>
 kS1 x426 x424 h420 fun _ h428 =>
 n340 x243 u u u u u u u x419 u u u u u u u u u u u u u u u u u u u u u u u u u u u u u u u u u u u u u u u u u u u u u u u u u u u u u u u u u u u u u u u u u u u u u u u u u u u u u u u u u u u u u u u h428)) (kCall X 113 [x243] h391 fun x429 h430 =>
 kAp 131 1400 x251 x429 h430 fun x431 h432 =>
 some (x431, h432)))) fun j392 =>
 wtS x347 true (kCall X 110 [x371, x386] h387 fun x433 h434 =>
 j392 x433 h434) (j392 u h387)) fun j389 =>
 wtS x347 true (kL1 x381 h382 fun x435 =>
 j389 x435 h382 d373) (j389 u h382 d373)) fun j383 =>
 wtS x347 true (kFA 53 x378 fun x436 =>
 j383 x436 h379) (j383 u h379)) fun j380 =>
 wtS x347 true (kNilc x375 fun x437 =>
 j380 x437 h376) (j380 u h376)) fun j377 =>
 wtS x347 true (j377 x243 h372) (j377 u h372)) fun j374 =>
 wtS x347 true (kLA 5 x366 h367 fun x438 =>
 j374 x438 h367 d361) (j374 u h367 d361)) fun j368 =>
 wtS x347 true (kFA 10 x363 fun x439 =>
 j368 x439 h364) (j368 u h364)) fun j365 =>
 wtS x347 true (kIS 15 x359 (qi 0) fun x440 =>
 j365 x440 h360) (j365 u h360)) fun j362 =>
 wtS x347 true (kL1 x354 h355 fun x441 =>
 j362 x441 h355 []) (j362 u h355 [])) fun j356 =>
 wtS x347 true (kFA 309 x351 fun x442 =>
 j356 x442 h352) (j356 u h352)) fun j353 =>
 wtS x347 true (kNilc x348 fun x443 =>
 j353 x443 h349) (j353 u h349)) fun j350 =>
 wtS x347 true (j350 x243 h339) (j350 u h339)) k x14 u u u u u u u .nils u u u u u u u u u u u u u u u u u u u u u u u u u u u u u u u u u u u u u u u u u u u u u u u u u u u u u u u u u u u u u u u u u u u u u u u u u u u u u u u u u u u u u u u h110)) k x0 u u u u x4 u u u u u u u u u u u x13 (qi 0) u u u u u u u u u u u u u u u u u u u u u u u u u u u u u u u u u u u u u u u u u u u u u u u u u u u u u u u u u u u u u u u u u u u u u u u u u u u u u h8))
theorem p68_ok (k : Nat) : p68 k = funcS k 3 lit68 := by kernel_rfl
def p74 (_ : Nat) : CtxK → List V → TH → R := fun X => ap 2 (fun x0 x1 h2 =>
 kNew (V.cellsR x0) h2 fun x3 h4 =>
 kNew (V.cellsR x1) h4 fun x5 h6 =>
 kFA 62 x3 fun x7 =>
 kFA 2 x7 fun x8 =>
 kL1 x8 h6 fun x9 =>
 kLen x9 fun x10 =>
 kEqI false x10 (qi 0) fun x11 =>
 jc (α := JT) (fun x12 h13 =>
 jc (α := JT) (fun x15 h16 =>
 jc (α := JT) (fun x18 h19 =>
 jc (α := JT) (fun x21 h22 =>
 kPick x11 x21 qf fun x24 =>
 jc (α := JT) (fun x25 h26 =>
 jc (α := JT) (fun x28 h29 =>
 jc (α := JT) (fun x31 h32 =>
 jc (α := JT) (fun x34 h35 =>
 kPick x24 x34 qf fun x37 =>
 jc (α := JT) (fun x38 h39 =>
 jc (α := JT) (fun x41 h42 =>
 jc (α := JT) (fun x44 h45 =>
 jc (α := JT) (fun x47 h48 =>
 jc (α := JT) (fun x50 h51 =>
 kPick x37 x50 qf fun x53 =>
 kFA 0 x5 fun x54 =>
 kL1 x54 h51 fun x57 =>
 jc (α := JT) (fun x58 h59 =>
 jc (α := V → TH → PD → R) (fun x63 h64 d65 =>
 jc (α := JT) (fun x67 h68 =>
 kPick x57 qt x67 fun x70 =>
 kFA 1 x5 fun x71 =>
 kL1 x71 h68 fun x74 =>
 jc (α := JT) (fun x75 h76 =>
 jc (α := V → TH → PD → R) (fun x80 h81 d82 =>
 jc (α := JT) (fun x84 h85 =>
 jc (α := JT) (fun x87 h88 =>
 kPick x74 qt x87 fun x90 =>
 kFA 2 x5 fun x91 =>
 kL1 x91 h88 fun x94 =>
 jc (α := JT) (fun x95 h96 =>
 jc (α := V → TH → PD → R) (fun x100 h101 d102 =>
 jc (α := JT) (fun x104 h105 =>
 jc (α := JT) (fun x107 h108 =>
 jc (α := JT) (fun x110 h111 =>
 jc (α := JT) (fun x113 h114 =>
 jc (α := V → TH → PD → R) (fun x118 h119 d120 =>
 jc (α := JT) (fun x122 h123 =>
 jc (α := JT) (fun x125 h126 =>
 kPick x94 qt x125 fun x128 =>
 kFA 3 x5 fun x129 =>
 kL1 x129 h126 fun x132 =>
 jc (α := JT) (fun x133 h134 =>
 jc (α := V → TH → PD → R) (fun x138 h139 d140 =>
 jc (α := JT) (fun x142 h143 =>
 jc (α := JT) (fun x145 h146 =>
 kPick x132 qt x145 fun x148 =>
 kFA 4 x5 fun x149 =>
 kL1 x149 h146 fun x152 =>
 jc (α := JT) (fun x153 h154 =>
 jc (α := V → TH → PD → R) (fun x158 h159 d160 =>
 jc (α := JT) (fun x162 h163 =>
 kPick x152 qt x162 fun x165 =>
 kFA 5 x5 fun x166 =>
 kL1 x166 h163 fun x169 =>
 jc (α := JT) (fun x170 h171 =>
 jc (α := V → TH → PD → R) (fun x175 h176 d177 =>
 jc (α := JT) (fun x179 h180 =>
 kFA 6 x5 fun x182 =>
 kL1 x182 h180 fun x185 =>
 kFA 7 x5 fun x186 =>
 kL1 x186 h180 fun x189 =>
 kFA 8 x5 fun x190 =>
 kL1 x190 h180 fun x193 =>
 kFA 9 x5 fun x194 =>
 kL1 x194 h180 fun x197 =>
 kFA 10 x5 fun x198 =>
 kL1 x198 h180 fun x201 =>
 jc (α := JT) (fun x202 h203 =>
 kPick x169 qt x202 fun x205 =>
 jc (α := JT) (fun x206 h207 =>
 kPick x185 qt x206 fun x209 =>
 jc (α := JT) (fun x210 h211 =>
 jc (α := V → TH → PD → R) (fun x215 h216 d217 =>
 jc (α := JT) (fun x219 h220 =>
 jc (α := JT) (fun x222 h223 =>
 kPick x189 qt x222 fun x225 =>
 jc (α := JT) (fun x226 h227 =>
 jc (α := V → TH → PD → R) (fun x231 h232 d233 =>
 jc (α := JT) (fun x235 h236 =>
 kPick x193 qt x235 fun x238 =>
 jc (α := JT) (fun x239 h240 =>
 jc (α := V → TH → PD → R) (fun x244 h245 d246 =>
 jc (α := JT) (fun x248 h249 =>
 jc (α := JT) (fun x251 h252 =>
 kPick x197 qt x251 fun x254 =>
 jc (α := JT) (fun x255 h256 =>
 jc (α := V → TH → PD → R) (fun x260 h261 d262 =>
 jc (α := JT) (fun x264 h265 =>
 jc (α := JT) (fun x267 h268 =>
 kPick x201 qt x267 fun x270 =>
 kBS 1 [qf] 11 [(0, 1, x70), (1, 1, x90), (2, 1, x128), (3, 1, x148), (4, 1, x165), (5, 1, x205), (6, 1, x209), (7, 1, x225), (8, 1, x238), (9, 1, x254), (10, 1, x270)] h268 fun x271 h272 =>
 dokS [h180, h272] d262 (kCall X 120 [x271, qf] h272 fun x273 h274 =>
 kNot x273 fun x275 =>
 some (x275, h274))) fun j269 =>
 wtS x201 false (kEq' false (.agg [.int, .str]) x260 x264 fun x276 =>
 j269 x276 h265) (j269 u h265)) fun j266 =>
 wtS x201 false (kB [(qb 0), qs] [] fun x277 =>
 j266 x277 h261) (j266 u h261)) fun j263 =>
 wtS x201 false (kLA 2 x255 h256 fun x278 =>
 j263 x278 h256 d246) (j263 u h256 d246)) fun j257 =>
 wtS x201 false (kFA 129 x3 fun x279 =>
 j257 x279 h252) (j257 u h252)) fun j253 =>
 wtS x197 false (kEq' false (.agg [.int, .int, .int, .int, .int, .str]) x244 x248 fun x280 =>
 j253 x280 h249) (j253 u h249)) fun j250 =>
 wtS x197 false (kB [(qb 0), (qw 0), (qb 0), (qb 0), (qb 0), qs] [] fun x281 =>
 j250 x281 h245) (j250 u h245)) fun j247 =>
 wtS x197 false (kLA 6 x239 h240 fun x282 =>
 j247 x282 h240 d233) (j247 u h240 d233)) fun j241 =>
 wtS x197 false (kFA 123 x3 fun x283 =>
 j241 x283 h236) (j241 u h236)) fun j237 =>
 wtS x193 false (kEqI false x231 (qw 0) fun x284 =>
 j237 x284 h232) (j237 u h232)) fun j234 =>
 wtS x193 false (kL1 x226 h227 fun x285 =>
 j234 x285 h227 d217) (j234 u h227 d217)) fun j228 =>
 wtS x193 false (kFA 122 x3 fun x286 =>
 j228 x286 h223) (j228 u h223)) fun j224 =>
 wtS x189 false (kEq' false (.agg [.int, .int, .int, .int, .int, .int, .int, .str]) x215 x219 fun x287 =>
 j224 x287 h220) (j224 u h220)) fun j221 =>
 wtS x189 false (kB zr2 [] fun x288 =>
 j221 x288 h216) (j221 u h216)) fun j218 =>
 wtS x189 false (kLA 8 x210 h211 fun x289 =>
 j218 x289 h211 ((fun h199 => kL1 x198 h199 fun x200 =>
 some (x200, h199), x201, 0, 1) :: ((fun h195 => kL1 x194 h195 fun x196 =>
 some (x196, h195), x197, 0, 1) :: ((fun h191 => kL1 x190 h191 fun x192 =>
 some (x192, h191), x193, 0, 1) :: ((fun h187 => kL1 x186 h187 fun x188 =>
 some (x188, h187), x189, 0, 1) :: ((fun h183 => kL1 x182 h183 fun x184 =>
 some (x184, h183), x185, 0, 1) :: d177)))))) (j218 u h211 ((fun h199 => kL1 x198 h199 fun x200 =>
 some (x200, h199), x201, 0, 1) :: ((fun h195 => kL1 x194 h195 fun x196 =>
 some (x196, h195), x197, 0, 1) :: ((fun h191 => kL1 x190 h191 fun x192 =>
 some (x192, h191), x193, 0, 1) :: ((fun h187 => kL1 x186 h187 fun x188 =>
 some (x188, h187), x189, 0, 1) :: ((fun h183 => kL1 x182 h183 fun x184 =>
 some (x184, h183), x185, 0, 1) :: d177))))))) fun j212 =>
 wtS x189 false (kFA 114 x3 fun x290 =>
 j212 x290 h207) (j212 u h207)) fun j208 =>
 wtS x185 false (j208 x53 h203) (j208 u h203)) fun j204 =>
 wtS x169 false (kCall X 15 [x175, x179] h180 fun x291 h292 =>
 j204 x291 h292) (j204 u h180)) fun j181 =>
 wtS x169 false (kB zr0 [] fun x293 =>
 j181 x293 h176) (j181 u h176)) fun j178 =>
 wtS x169 false (kLA 49 x170 h171 fun x294 =>
 j178 x294 h171 d160) (j178 u h171 d160)) fun j172 =>
 wtS x169 false (kFA 13 x3 fun x295 =>
 j172 x295 h163) (j172 u h163)) fun j164 =>
 wtS x152 false (kEqI false x158 (qb 0) fun x296 =>
 j164 x296 h159) (j164 u h159)) fun j161 =>
 wtS x152 false (kL1 x153 h154 fun x297 =>
 j161 x297 h154 ((fun h156 => kL1 x153 h156 fun x157 =>
 some (x157, h156), x297, 0, 1) :: d140)) (j161 u h154 d140)) fun j155 =>
 wtS x152 false (kFA 12 x3 fun x298 =>
 j155 x298 h146) (j155 u h146)) fun j147 =>
 wtS x132 false (kEq' false (.agg [.int, .int, .int]) x138 x142 fun x299 =>
 j147 x299 h143) (j147 u h143)) fun j144 =>
 wtS x132 false (kB [(qb 0), (qb 0), (qi 0)] [] fun x300 =>
 j144 x300 h139) (j144 u h139)) fun j141 =>
 wtS x132 false (kLA 3 x133 h134 fun x301 =>
 j141 x301 h134 ((fun h136 => kLA 3 x133 h136 fun x137 =>
 some (x137, h136), x301, 0, 1) :: d120)) (j141 u h134 d120)) fun j135 =>
 wtS x132 false (kFA 9 x3 fun x302 =>
 j135 x302 h126) (j135 u h126)) fun j127 =>
 wtS x94 false (kPick x110 x122 qf fun x303 =>
 j127 x303 h123) (j127 u h123)) fun j124 =>
 wtS x110 true (kNot x118 fun x304 =>
 j124 x304 h119) (j124 u h119)) fun j121 =>
 wtS x110 true (kL1 x113 h114 fun x305 =>
 j121 x305 h114 ((fun h116 => kL1 x113 h116 fun x117 =>
 some (x117, h116), x305, 0, 1) :: d102)) (j121 u h114 d102)) fun j115 =>
 wtS x110 true (kFA 8 x3 fun x306 =>
 j115 x306 h111) (j115 u h111)) fun j112 =>
 wtS x94 false (j112 x107 h108) (j112 u h108)) fun j109 =>
 wtS x94 false (kEq' false (.agg [.int, .int]) x100 x104 fun x307 =>
 j109 x307 h105) (j109 u h105)) fun j106 =>
 wtS x94 false (kB [(qw 0), (qb 0)] [] fun x308 =>
 j106 x308 h101) (j106 u h101)) fun j103 =>
 wtS x94 false (kLA 2 x95 h96 fun x309 =>
 j103 x309 h96 d82) (j103 u h96 d82)) fun j97 =>
 wtS x94 false (kFA 6 x3 fun x310 =>
 j97 x310 h88) (j97 u h88)) fun j89 =>
 wtS x74 false (kEq' false (.agg [.int, .int]) x80 x84 fun x311 =>
 j89 x311 h85) (j89 u h85)) fun j86 =>
 wtS x74 false (kB [(qw 0), (qb 0)] [] fun x312 =>
 j86 x312 h81) (j86 u h81)) fun j83 =>
 wtS x74 false (kLA 2 x75 h76 fun x313 =>
 j83 x313 h76 ((fun h78 => kLA 2 x75 h78 fun x79 =>
 some (x79, h78), x313, 0, 1) :: d65)) (j83 u h76 d65)) fun j77 =>
 wtS x74 false (kFA 4 x3 fun x314 =>
 j77 x314 h68) (j77 u h68)) fun j69 =>
 wtS x57 false (kEqI false x63 (qw 0) fun x315 =>
 j69 x315 h64) (j69 u h64)) fun j66 =>
 wtS x57 false (kL1 x58 h59 fun x316 =>
 j66 x316 h59 ((fun h61 => kL1 x58 h61 fun x62 =>
 some (x62, h61), x316, 0, 1) :: [])) (j66 u h59 [])) fun j60 =>
 wtS x57 false (kFA 3 x3 fun x317 =>
 j60 x317 h51) (j60 u h51)) fun j52 =>
 wtS x37 true (kCall X 15 [x44, x47] h48 fun x318 h319 =>
 j52 x318 h319) (j52 u h48)) fun j49 =>
 wtS x37 true (kB zr0 [] fun x320 =>
 j49 x320 h45) (j49 u h45)) fun j46 =>
 wtS x37 true (kLA 49 x41 h42 fun x321 =>
 j46 x321 h42) (j46 u h42)) fun j43 =>
 wtS x37 true (kFA 3 x38 fun x322 =>
 j43 x322 h39) (j43 u h39)) fun j40 =>
 wtS x37 true (kFA 62 x3 fun x323 =>
 j40 x323 h35) (j40 u h35)) fun j36 =>
 wtS x24 true (kEqI false x31 (qw 0) fun x324 =>
 j36 x324 h32) (j36 u h32)) fun j33 =>
 wtS x24 true (kL1 x28 h29 fun x325 =>
 j33 x325 h29) (j33 u h29)) fun j30 =>
 wtS x24 true (kFA 1 x25 fun x326 =>
 j30 x326 h26) (j30 u h26)) fun j27 =>
 wtS x24 true (kFA 62 x3 fun x327 =>
 j27 x327 h22) (j27 u h22)) fun j23 =>
 wtS x11 true (kEqI false x18 (qi 0) fun x328 =>
 j23 x328 h19) (j23 u h19)) fun j20 =>
 wtS x11 true (kL1 x15 h16 fun x329 =>
 j20 x329 h16) (j20 u h16)) fun j17 =>
 wtS x11 true (kFA 0 x12 fun x330 =>
 j17 x330 h13) (j17 u h13)) fun j14 =>
 wtS x11 true (kFA 62 x3 fun x331 =>
 j14 x331 h6) (j14 u h6))
theorem p74_ok (k : Nat) : p74 k = funcS k 2 lit74 := by kernel_rfl
def p85 (k : Nat) : CtxK → List V → TH → R := fun X => ap 2 (fun x0 x1 h2 =>
 kCall X 126 [x0, x1] h2 fun x3 h4 =>
 kEqI false x3 (.int .i64 (-1)) fun x5 =>
 brS x5 (some (x0, h4)) (kBin .add x3 (qi 1) fun x6 =>
 lp (α := Cur 42) (zN 42) (fun n50 x7 x8 _ _ _ x12 x13 _ _ _ _ _ _ _ _ _ _ _ _ _ _ _ _ _ _ _ _ _ _ _ _ _ _ _ _ _ _ _ _ _ _ _ h49 =>
 kLen x7 fun x51 =>
 kBin .lss x13 x51 fun x52 =>
 brS x52 (kIS 1 x7 x13 fun x53 =>
 kL1 x53 h49 fun x54 =>
 kCv X x8 [x54] h49 fun x55 h56 =>
 kNot x55 fun x57 =>
 jc (α := Cur 42) (fun x58 x59 _ _ _ x63 x64 _ _ _ _ _ _ _ _ _ _ _ _ _ _ _ _ _ _ _ _ _ _ _ _ _ _ _ _ _ _ _ _ _ _ _ h100 =>
 kBin .add x64 (qi 1) fun x102 =>
 n50 x58 x59 u u u x63 x102 u u u u u u u u u u u u u u u u u u u u u u u u u u u u u u u u u u u h100) fun j101 =>
 brS x57 (kIS 1 x7 x12 fun x103 =>
 kS1 x103 x54 h56 fun _ h105 =>
 kBin .add x12 (qi 1) fun x106 =>
 j101 x7 x8 u u u x106 x13 u u u u u u u u u u u u u u u u u u u u u u u u u u u u u u u u u u u h105) (j101 x7 x8 u u u x12 x13 u u u u u u u u u u u u u u u u u u u u u u u u u u u u u u u u u u u h56)) (kP (sliceE 1 x7 (some x12) none) fun x107 =>
 kCl [(qi 0)] 1 x107 h49 fun _ h109 =>
 kP (sliceE 1 x7 none (some x12)) fun x110 =>
 some (x110, h109))) k x0 x1 u u u x3 x6 u u u u u u u u u u u u u u u u u u u u u u u u u u u u u u u u u u u h4))
theorem p85_ok (k : Nat) : p85 k = funcS k 2 lit85 := by kernel_rfl
def p92 (_ : Nat) : CtxK → List V → TH → R := fun X => ap 2 (fun x0 x1 h2 =>
 kNew (V.cellsR x0) h2 fun x3 h4 =>
 kNew (V.cellsR x1) h4 fun x5 h6 =>
 kFA 2 x5 fun x7 =>
 kLA 6 x7 h6 fun x8 =>
 kCall X 9 [x8] h6 fun x9 h10 =>
 jc (α := JT) (fun x11 h12 =>
 jc (α := JT) (fun x14 h15 =>
 jc (α := JT) (fun x17 h18 =>
 jc (α := JT) (fun x20 h21 =>
 jc (α := JT) (fun x23 h24 =>
 jc (α := JT) (fun x26 h27 =>
 kPick x9 x26 qf fun x29 =>
 jc (α := JT) (fun x30 h31 =>
 jc (α := JT) (fun x33 h34 =>
 jc (α := JT) (fun x36 h37 =>
 jc (α := JT) (fun x39 h40 =>
 jc (α := JT) (fun x42 h43 =>
 kPick x29 x42 qf fun x45 =>
 jc (α := JT) (fun x46 h47 =>
 jc (α := JT) (fun x49 h50 =>
 jc (α := JT) (fun x52 h53 =>
 jc (α := JT) (fun x55 h56 =>
 jc (α := JT) (fun x58 h59 =>
 kPick x45 x58 qf fun x61 =>
 jc (α := JT) (fun x62 h63 =>
 jc (α := JT) (fun x65 h66 =>
 jc (α := JT) (fun x68 h69 =>
 kPick x61 x68 qf fun x71 =>
 some (x71, h69)) fun j70 =>
 wtS x61 true (kBin .leq x65 (qw 60) fun x72 =>
 j70 x72 h66) (j70 u h66)) fun j67 =>
 wtS x61 true (kL1 x62 h63 fun x73 =>
 j67 x73 h63) (j67 u h63)) fun j64 =>
 wtS x61 true (kFA 0 x5 fun x74 =>
 j64 x74 h59) (j64 u h59)) fun j60 =>
 wtS x45 true (kBin .geq x49 x55 fun x75 =>
 j60 x75 h56) (j60 u h56)) fun j57 =>
 wtS x45 true (kL1 x52 h53 fun x76 =>
 j57 x76 h53) (j57 u h53)) fun j54 =>
 wtS x45 true (kFA 0 x3 fun x77 =>
 j54 x77 h50) (j54 u h50)) fun j51 =>
 wtS x45 true (kL1 x46 h47 fun x78 =>
 j51 x78 h47) (j51 u h47)) fun j48 =>
 wtS x45 true (kFA 0 x5 fun x79 =>
 j48 x79 h43) (j48 u h43)) fun j44 =>
 wtS x29 true (kBin .gtr x33 x39 fun x80 =>
 j44 x80 h40) (j44 u h40)) fun j41 =>
 wtS x29 true (kL1 x36 h37 fun x81 =>
 j41 x81 h37) (j41 u h37)) fun j38 =>
 wtS x29 true (kFA 1 x3 fun x82 =>
 j38 x82 h34) (j38 u h34)) fun j35 =>
 wtS x29 true (kL1 x30 h31 fun x83 =>
 j35 x83 h31) (j35 u h31)) fun j32 =>
 wtS x29 true (kFA 1 x5 fun x84 =>
 j32 x84 h27) (j32 u h27)) fun j28 =>
 wtS x9 true (kEqI false x14 x23 fun x85 =>
 j28 x85 h24) (j28 u h24)) fun j25 =>
 wtS x9 true (kBin .add x20 (qw 1) fun x86 =>
 j25 x86 h21) (j25 u h21)) fun j22 =>
 wtS x9 true (kL1 x17 h18 fun x87 =>
 j22 x87 h18) (j22 u h18)) fun j19 =>
 wtS x9 true (kFA 1 x3 fun x88 =>
 j19 x88 h15) (j19 u h15)) fun j16 =>
 wtS x9 true (kL1 x11 h12 fun x89 =>
 j16 x89 h12) (j16 u h12)) fun j13 =>
 wtS x9 true (kFA 1 x5 fun x90 =>
 j13 x90 h10) (j13 u h10))
theorem p92_ok (k : Nat) : p92 k = funcS k 2 lit92 := by kernel_rfl
def p94 (_ : Nat) : CtxK → List V → TH → R := fun _ => ap 1 (fun x0 h1 =>
 kEq' false (.nilR .sl) x0 .nils fun x2 =>
 brS x2 (some (.nils, h1)) (kBS 8 zr2 0 [] h1 fun x3 h4 =>
 kAp 8 40 x3 x0 h4 fun x5 h6 =>
 some (x5, h6)))
theorem p94_ok (k : Nat) : p94 k = funcS k 1 lit94 := by kernel_rfl
def p95 (k : Nat) : CtxK → List V → TH → R := fun _ => ap 2 (fun x0 x1 h2 =>
 kLen x0 fun x3 =>
 lp (α := Cur 19) (zN 19) (fun n24 x4 x5 _ _ _ _ _ x11 x12 _ _ _ _ _ _ _ _ _ _ h23 =>
 kBin .lss x12 x11 fun x25 =>
 brS x25 (kIS 1 x4 x12 fun x26 =>
 kL1 x26 h23 fun x27 =>
 kEqI false x5 x27 fun x28 =>
 brS x28 (some (x12, h23)) (kBin .add x12 (qi 1) fun x29 =>
 n24 x4 x5 u u u u u x11 x29 u u u u u u u u u u h23)) (some ((.int .i64 (-1)), h23))) k x0 x1 u u u u u x3 (qi 0) u u u u u u u u u u h2)
theorem p95_ok (k : Nat) : p95 k = funcS k 2 lit95 := by kernel_rfl
def p104 (_ : Nat) : CtxK → List V → TH → R := fun _ => ap 1 (fun x0 h1 =>
 kNew (V.cellsR x0) h1 fun x2 h3 =>
 kFA 1 x2 fun x4 =>
 kL1 x4 h3 fun x5 =>
 kConv .i64 x5 fun x6 =>
 kBin .sub x6 (qi 10) fun x7 =>
 some (x7, h3))
theorem p104_ok (k : Nat) : p104 k = funcS k 1 lit104 := by kernel_rfl
def p106 (k : Nat) : CtxK → List V → TH → R := fun X => ap 2 (fun x0 x1 h2 =>
 kNew (V.cellsR x1) h2 fun x3 h4 =>
 kNilc x0 fun x5 =>
 kFA 3 x5 fun x6 =>
 kFA 0 x6 fun x7 =>
 kL1 x7 h4 fun x10 =>
 kNilc x0 fun x11 =>
 kFA 52 x11 fun x12 =>
 kL1 x12 h4 fun x15 =>
 kBin .gtr x10 x15 fun x16 =>
 dokS [h4] [] (jc (α := Cur 92) (fun _ _ _ _ _ _ _ _ _ _ _ _ _ _ _ _ _ _ _ _ _ _ _ _ _ _ _ _ _ _ _ _ _ _ _ _ _ _ _ _ _ _ _ _ _ _ _ _ _ _ _ _ _ _ _ _ _ _ _ _ _ _ _ _ _ _ _ _ _ _ _ _ _ _ _ _ _ _ _ _ _ _ _ _ _ _ _ _ _ _ _ _ h109 =>
 some (.tup [], h109)) fun j110 =>
 brS x16 (j110 u u u u u u u u u u u u u u u u u u u u u u u u u u u u u u u u u u u u u u u u u u u u u u u u u u u u u u u u u u u u u u u u u u u u u u u u u u u u u u u u u u u u u u u u u u u u h4) (kNilc x0 fun x111 =>
 kFA 3 x111 fun x112 =>
 kFA 0 x112 fun x113 =>
 kL1 x113 h4 fun x116 =>
 kNilc x0 fun x117 =>
 kFA 52 x117 fun x118 =>
 kL1 x118 h4 fun x121 =>
 kBin .lss x116 x121 fun x122 =>
 dokS [h4] [] (jc (α := Cur 92) (fun _ _ _ _ _ _ _ _ _ _ _ _ _ _ _ _ _ _ _ _ _ _ _ _ _ _ _ _ _ _ _ _ _ _ _ _ _ _ _ _ _ _ _ _ _ _ _ _ _ _ _ _ _ _ _ _ _ _ _ _ _ _ _ _ _ _ _ _ _ _ _ _ _ _ _ _ _ _ _ _ _ _ _ _ _ _ _ _ _ _ _ _ h215 =>
 j110 u u u u u u u u u u u u u u u u u u u u u u u u u u u u u u u u u u u u u u u u u u u u u u u u u u u u u u u u u u u u u u u u u u u u u u u u u u u u u u u u u u u u u u u u u u u u h215) fun j216 =>
 brS x122 (kNilc x0 fun x217 =>
 kFA 3 x217 fun x218 =>
 kLA 49 x218 h4 fun x221 =>
 kLA 52 x3 h4 fun x224 =>
 kNew zr0 h4 fun x225 h226 =>
 kCall X 155 [x221, x224] h226 fun x227 h228 =>
 kExt x227 0 fun x229 =>
 kExt x227 1 fun x230 =>
 kSA 49 x225 x229 h228 fun _ h232 =>
 dokS [h226, h228, h232] [] (kEqI false x230 (qi 0) fun x233 =>
 jc (α := Cur 92) (fun _ _ _ _ _ _ _ _ _ _ _ _ _ _ _ _ _ _ _ _ _ _ _ _ _ _ _ _ _ _ _ _ _ _ _ _ _ _ _ _ _ _ _ _ _ _ _ _ _ _ _ _ _ _ _ _ _ _ _ _ _ _ _ _ _ _ _ _ _ _ _ _ _ _ _ _ _ _ _ _ _ _ _ _ _ _ _ _ _ _ _ _ h326 =>
 j216 u u u u u u u u u u u u u u u u u u u u u u u u u u u u u u u u u u u u u u u u u u u u u u u u u u u u u u u u u u u u u u u u u u u u u u u u u u u u u u u u u u u u u u u u u u u u h326) fun j327 =>
 brS x233 (kLA 49 x225 h232 fun x328 =>
 kNilc x0 fun x329 =>
 kFA 3 x329 fun x330 =>
 kSA 49 x330 x328 h232 fun _ h332 =>
 j327 u u u u u u u u u u u u u u u u u u u u u u u u u u u u u u u u u u u u u u u u u u u u u u u u u u u u u u u u u u u u u u u u u u u u u u u u u u u u u u u u u u u u u u u u u u u u h332) (j327 u u u u u u u u u u u u u u u u u u u u u u u u u u u u u u u u u u u u u u u u u u u u u u u u u u u u u u u u u u u u u u u u u u u u u u u u u u u u u u u u u u u u u u u u u u u u h232))) (kFA 0 x3 fun x333 =>
 kL1 x333 h4 fun x334 =>
 kEqI false x334 (qi 1) fun x335 =>
 jc (α := Cur 92) (fun _ _ _ _ _ _ _ _ _ _ _ _ _ _ _ _ _ _ _ _ _ _ _ _ _ _ _ _ _ _ _ _ _ _ _ _ _ _ _ _ _ _ _ _ _ _ _ _ _ _ _ _ _ _ _ _ _ _ _ _ _ _ _ _ _ _ _ _ _ _ _ _ _ _ _ _ _ _ _ _ _ _ _ _ _ _ _ _ _ _ _ _ h428 =>
 j216 u u u u u u u u u u u u u u u u u u u u u u u u u u u u u u u u u u u u u u u u u u u u u u u u u u u u u u u u u u u u u u u u u u u u u u u u u u u u u u u u u u u u u u u u u u u u h428) fun j429 =>
 brS x335 (kFA 2 x3 fun x430 =>
 kL1 x430 h4 fun x431 =>
 kLen x431 fun x432 =>
 lp (α := Cur 92) (zN 92) (fun n526 x433 _ _ _ _ _ _ _ _ _ _ _ _ _ _ _ _ _ _ _ _ _ _ _ _ _ _ _ _ _ _ _ _ _ _ _ _ _ _ _ _ _ _ _ _ _ _ _ _ _ _ _ x485 x486 x487 _ _ _ _ _ _ _ _ _ _ _ _ _ _ _ _ _ _ _ _ _ _ _ _ _ _ _ _ _ _ _ _ _ _ _ _ _ h525 =>
 kBin .lss x487 x486 fun x527 =>
 brS x527 (kIS 8 x485 x487 fun x528 =>
 kLA 8 x528 h525 fun x529 =>
 kNew zr2 h525 fun x530 h531 =>
 kSA 8 x530 x529 h531 fun _ h533 =>
 kLA 8 x530 h533 fun x534 =>
 kCall X 111 [x433, x534] h533 fun _ h536 =>
 kBin .add x487 (qi 1) fun x537 =>
 n526 x433 u u u u u u u u u u u u u u u u u u u u u u u u u u u u u u u u u u u u u u u u u u u u u u u u u u u x485 x486 x537 u u u u u u u u u u u u u u u u u u u u u u u u u u u u u u u u u u u u u h536) (j429 u u u u u u u u u u u u u u u u u u u u u u u u u u u u u u u u u u u u u u u u u u u u u u u u u u u u u u u u u u u u u u u u u u u u u u u u u u u u u u u u u u u u u u u u u u u u h525)) k x0 u u u u u u u u u u u u u u u u u u u u u u u u u u u u u u u u u u u u u u u u u u u u u u u u u u u x431 x432 (qi 0) u u u u u u u u u u u u u u u u u u u u u u u u u u u u u u u u u u u u u h4) (kFA 0 x3 fun x538 =>
 kL1 x538 h4 fun x541 =>
 kEqI false x541 (qi 2) fun x542 =>
 jc (α := JT) (fun x543 h544 =>
 jc (α := JT) (fun x546 h547 =>
 jc (α := V → TH → PD → R) (fun x551 h552 d553 =>
 jc (α := JT) (fun x555 h556 =>
 jc (α := JT) (fun x558 h559 =>
 jc (α := JT) (fun x561 h562 =>
 jc (α := V → TH → PD → R) (fun x566 h567 d568 =>
 jc (α := JT) (fun x570 h571 =>
 kPick x542 x570 qf fun x573 =>
 dokS [h571] d568 (jc (α := Cur 92) (fun _ _ _ _ _ _ _ _ _ _ _ _ _ _ _ _ _ _ _ _ _ _ _ _ _ _ _ _ _ _ _ _ _ _ _ _ _ _ _ _ _ _ _ _ _ _ _ _ _ _ _ _ _ _ _ _ _ _ _ _ _ _ _ _ _ _ _ _ _ _ _ _ _ _ _ _ _ _ _ _ _ _ _ _ _ _ _ _ _ _ _ _ h666 =>
 j429 u u u u u u u u u u u u u u u u u u u u u u u u u u u u u u u u u u u u u u u u u u u u u u u u u u u u u u u u u u u u u u u u u u u u u u u u u u u u u u u u u u u u u u u u u u u u h666) fun j667 =>
 brS x573 (kFA 3 x3 fun x668 =>
 kLA 49 x668 h571 fun x669 =>
 kCall X 22 [x669] h571 fun x670 h671 =>
 kExt x670 0 fun _ =>
 kExt x670 1 fun x673 =>
 kCall X 109 [x0] h671 fun x674 h675 =>
 kBin .gtr x673 x674 fun x676 =>
 jc (α := Cur 92) (fun _ _ _ _ _ _ _ _ _ _ _ _ _ _ _ _ _ _ _ _ _ _ _ _ _ _ _ _ _ _ _ _ _ _ _ _ _ _ _ _ _ _ _ _ _ _ _ _ _ _ _ _ _ _ _ _ _ _ _ _ _ _ _ _ _ _ _ _ _ _ _ _ _ _ _ _ _ _ _ _ _ _ _ _ _ _ _ _ _ _ _ _ h769 =>
 j667 u u u u u u u u u u u u u u u u u u u u u u u u u u u u u u u u u u u u u u u u u u u u u u u u u u u u u u u u u u u u u u u u u u u u u u u u u u u u u u u u u u u u u u u u u u u u h769) fun j770 =>
 brS x676 (kFA 3 x3 fun x771 =>
 kLA 49 x771 h675 fun x772 =>
 kCall X 36 [x772] h675 fun x773 h774 =>
 kNilc x0 fun x775 =>
 kFA 3 x775 fun x776 =>
 kSA 49 x776 x773 h774 fun _ h778 =>
 j770 u u u u u u u u u u u u u u u u u u u u u u u u u u u u u u u u u u u u u u u u u u u u u u u u u u u u u u u u u u u u u u u u u u u u u u u u u u u u u u u u u u u u u u u u u u u u h778) (j770 u u u u u u u u u u u u u u u u u u u u u u u u u u u u u u u u u u u u u u u u u u u u u u u u u u u u u u u u u u u u u u u u u u u u u u u u u u u u u u u u u u u u u u u u u u u u h675)) (j667 u u u u u u u u u u u u u u u u u u u u u u u u u u u u u u u u u u u u u u u u u u u u u u u u u u u u u u u u u u u u u u u u u u u u u u u u u u u u u u u u u u u u u u u u u u u u h571))) fun j572 =>
 wtS x542 true (kEqI false x551 x566 fun x779 =>
 j572 x779 h567) (j572 u h567)) fun j569 =>
 wtS x542 true (kL1 x561 h562 fun x780 =>
 j569 x780 h562 d553) (j569 u h562 d553)) fun j563 =>
 wtS x542 true (kFA 52 x558 fun x781 =>
 j563 x781 h559) (j563 u h559)) fun j560 =>
 wtS x542 true (kNilc x555 fun x782 =>
 j560 x782 h556) (j560 u h556)) fun j557 =>
 wtS x542 true (j557 x0 h552) (j557 u h552)) fun j554 =>
 wtS x542 true (kL1 x546 h547 fun x783 =>
 j554 x783 h547 []) (j554 u h547 [])) fun j548 =>
 wtS x542 true (kFA 0 x543 fun x784 =>
 j548 x784 h544) (j548 u h544)) fun j545 =>
 wtS x542 true (kFA 3 x3 fun x785 =>
 j545 x785 h4) (j545 u h4)))))))
theorem p106_ok (k : Nat) : p106 k = funcS k 2 lit106 := by kernel_rfl
def p111 (_ : Nat) : CtxK → List V → TH → R := fun X => ap 2 (fun x0 x1 h2 =>
 kNew (V.cellsR x1) h2 fun x3 h4 =>
 kFA 1 x3 fun x5 =>
 kL1 x5 h4 fun x8 =>
 kCall X 109 [x0] h4 fun x9 h10 =>
 kBin .geq x9 x8 fun x11 =>
 jc (α := JT) (fun x12 h13 =>
 jc (α := V → TH → PD → R) (fun x17 h18 d19 =>
 jc (α := JT) (fun x21 h22 =>
 jc (α := JT) (fun x24 h25 =>
 jc (α := JT) (fun x27 h28 =>
 jc (α := JT) (fun x30 h31 =>
 kPick x11 qt x30 fun x33 =>
 dokS [h4, h22, h31] d19 (brS x33 (some (.tup [], h31)) (kNilc x0 fun x34 =>
 kFA 3 x34 fun x35 =>
 kLA 49 x35 h31 fun x38 =>
 kLA 8 x3 h31 fun x41 =>
 kNew zr0 h31 fun x42 h43 =>
 kCall X 157 [x38, x41] h43 fun x44 h45 =>
 kExt x44 0 fun x46 =>
 kExt x44 1 fun x47 =>
 kSA 49 x42 x46 h45 fun _ h49 =>
 dokS [h43, h45, h49] [] (kEqI false x47 (qi 0) fun x50 =>
 jc (α := Cur 34) (fun _ _ _ _ _ _ _ _ _ _ _ _ _ _ _ _ _ _ _ _ _ _ _ _ _ _ _ _ _ _ _ _ _ _ h85 =>
 some (.tup [], h85)) fun j86 =>
 brS x50 (kLA 49 x42 h49 fun x87 =>
 kNilc x0 fun x88 =>
 kFA 3 x88 fun x89 =>
 kSA 49 x89 x87 h49 fun _ h91 =>
 j86 u u u u u u u u u u u u u u u u u u u u u u u u u u u u u u u u u u h91) (j86 u u u u u u u u u u u u u u u u u u u u u u u u u u u u u u u u u u h49))))) fun j32 =>
 wtS x11 false (kBin .gtr x27 (qw 1) fun x92 =>
 j32 x92 h28) (j32 u h28)) fun j29 =>
 wtS x11 false (kBin .sub x17 x24 fun x93 =>
 j29 x93 h25) (j29 u h25)) fun j26 =>
 wtS x11 false (kCall X 109 [x21] h22 fun x94 h95 =>
 j26 x94 h95) (j26 u h22)) fun j23 =>
 wtS x11 false (j23 x0 h18) (j23 u h18)) fun j20 =>
 wtS x11 false (kL1 x12 h13 fun x96 =>
 j20 x96 h13 ((fun h15 => kL1 x12 h15 fun x16 =>
 some (x16, h15), x96, 1, 2) :: ((fun h6 => kL1 x5 h6 fun x7 =>
 some (x7, h6), x8, 0, 1) :: []))) (j20 u h13 ((fun h6 => kL1 x5 h6 fun x7 =>
 some (x7, h6), x8, 0, 1) :: []))) fun j14 =>
 wtS x11 false (kFA 1 x3 fun x97 =>
 j14 x97 h10) (j14 u h10))
theorem p111_ok (k : Nat) : p111 k = funcS k 2 lit111 := by kernel_rfl
def p112 (_ : Nat) : CtxK → List V → TH → R := fun _ => ap 3 (fun x0 x1 x2 h3 =>
 kNew (V.cellsR x1) h3 fun x4 h5 =>
 kNew (V.cellsR x2) h5 fun x6 h7 =>
 kNew zr1 h7 fun x8 h9 =>
 kNilc x0 fun x10 =>
 kFA 0 x10 fun x11 =>
 kL1 x11 h9 fun x14 =>
 kConv .u8 x14 fun x15 =>
 kBin .add (qb 10) x15 fun x16 =>
 kFA 0 x4 fun x17 =>
 kL1 x17 h9 fun x20 =>
 kBin .add (qb 20) x20 fun x21 =>
 kLA 6 x4 h9 fun x24 =>
 kLA 2 x6 h9 fun x27 =>
 kB zr1 [(0, 1, (qb 16)), (1, 1, x16), (2, 1, x21), (123, 6, x24), (129, 2, x27)] fun x28 =>
 kSA 131 x8 x28 h9 fun _ h30 =>
 dokS [h9, h30] [] (rsS [.cell 6 true 131] [x0, x1, x2, u, x4, x6, x8, x0, x10, x11, x14, x15, x16, x17, x20, x21, x24, x27, x28] h30))
theorem p112_ok (k : Nat) : p112 k = funcS k 3 lit112 := by kernel_rfl
def p118 (_ : Nat) : CtxK → List V → TH → R := fun _ => ap 1 (fun x0 h1 =>
 kBin .geq x0 (qb 21) fun x2 =>
 jc (α := JT) (fun x3 h4 =>
 jc (α := JT) (fun x6 h7 =>
 kPick x2 x6 qf fun x9 =>
 some (x9, h7)) fun j8 =>
 wtS x2 true (kBin .lss x3 (qb 24) fun x10 =>
 j8 x10 h4) (j8 u h4)) fun j5 =>
 wtS x2 true (j5 x0 h1) (j5 u h1))
theorem p118_ok (k : Nat) : p118 k = funcS k 1 lit118 := by kernel_rfl
def p119 (_ : Nat) : CtxK → List V → TH → R := fun _ => ap 1 (fun x0 h1 =>
 kNew zr3 h1 fun x2 h3 =>
 kB zr3 [(0, 1, qt), (4, 1, qt)] fun x4 =>
 kNew zr3 h3 fun x5 h6 =>
 kSA 11 x5 x4 h6 fun _ h8 =>
 kEqI false x0 (qb 8) fun x9 =>
 jc (α := Cur 24) (fun x10 x11 x12 x13 x14 x15 x16 x17 x18 x19 x20 x21 x22 x23 x24 x25 x26 x27 x28 x29 x30 x31 x32 _ h34 =>
 kLA 11 x13 h34 fun x36 =>
 kSA 11 x12 x36 h34 fun _ h38 =>
 rsS [.cell 2 true 11] [x10, x11, x12, x13, x14, x15, x16, x17, x18, x19, x20, x21, x22, x23, x24, x25, x26, x27, x28, x29, x30, x31, x32, x36] h38) fun j35 =>
 brS x9 (kFA 5 x5 fun x39 =>
 kS1 x39 qt h8 fun _ h41 =>
 j35 u u x2 x5 u u u u u u u u u u u u u u u u u u u u h41) (kEqI false x0 (qb 9) fun x42 =>
 jc (α := Cur 24) (fun _ _ x45 x46 _ _ _ _ _ _ _ _ _ _ _ _ _ _ _ _ _ _ _ _ h67 =>
 j35 u u x45 x46 u u u u u u u u u u u u u u u u u u u u h67) fun j68 =>
 brS x42 (kFA 6 x5 fun x69 =>
 kS1 x69 qt h8 fun _ h71 =>
 j68 u u x2 x5 u u u u u u u u u u u u u u u u u u u u h71) (kEqI false x0 (qb 10) fun x72 =>
 jc (α := Cur 24) (fun _ _ x75 x76 _ x78 _ _ _ _ _ _ x85 _ _ _ _ _ _ _ _ _ _ _ h97 =>
 jc (α := Cur 24) (fun _ _ x101 x102 _ _ _ _ _ _ _ _ _ _ _ _ _ _ _ _ _ _ _ _ h123 =>
 j68 u u x101 x102 u u u u u u u u u u u u u u u u u u u u h123) fun j124 =>
 brS x85 (kFA 8 x76 fun x125 =>
 kS1 x125 qt h97 fun _ h127 =>
 j124 u u x75 x76 u u u u u u u u u u u u u u u u u u u u h127) (kEqI false x78 (qb 11) fun x128 =>
 jc (α := Cur 24) (fun _ _ x131 x132 _ _ _ _ _ _ _ _ _ _ _ _ _ _ _ _ _ _ _ _ h153 =>
 j124 u u x131 x132 u u u u u u u u u u u u u u u u u u u u h153) fun j154 =>
 brS x128 (kFA 7 x76 fun x155 =>
 kS1 x155 qt h97 fun _ h157 =>
 j154 u u x75 x76 u u u u u u u u u u u u u u u u u u u u h157) (kEqI false x78 (qb 13) fun x158 =>
 jc (α := Cur 24) (fun _ _ x161 x162 _ _ _ _ _ _ _ _ _ _ _ _ _ _ _ x178 _ _ _ _ h183 =>
 jc (α := Cur 24) (fun _ _ x187 x188 _ _ _ _ _ _ _ _ _ _ _ _ _ _ _ _ _ _ _ _ h209 =>
 j154 u u x187 x188 u u u u u u u u u u u u u u u u u u u u h209) fun j210 =>
 brS x178 (kFA 9 x162 fun x211 =>
 kS1 x211 qt h183 fun _ h213 =>
 j210 u u x161 x162 u u u u u u u u u u u u u u u u u u u u h213) (j210 u u x161 x162 u u u u u u u u u u u u u u u u u u u u h183)) fun j184 =>
 brS x158 (j184 u u x75 x76 u u u u u u u u u u u u u u u x158 u u u u h97) (kEqI false x78 (qb 14) fun x214 =>
 j184 u u x75 x76 u u u u u u u u u u u u u u u x214 u u u u h97)))) fun j98 =>
 brS x72 (j98 u u x2 x5 u x0 u u u u u u x72 u u u u u u u u u u u h8) (kEqI false x0 (qb 12) fun x215 =>
 j98 u u x2 x5 u x0 u u u u u u x215 u u u u u u u u u u u h8))))
theorem p119_ok (k : Nat) : p119 k = funcS k 1 lit119 := by kernel_rfl
def p127 (k : Nat) : CtxK → List V → TH → R := fun X => ap 2 (fun x0 x1 h2 =>
 kNew (V.cellsR x0) h2 fun x3 h4 =>
 kFA 1 x3 fun x5 =>
 kLA 15 x5 h4 fun x6 =>
 lp (α := Cur 23) (zN 23) (fun n31 _ x8 _ _ _ x12 _ _ _ x16 x17 _ _ _ _ _ _ _ _ _ _ _ _ h30 =>
 kBin .lss x17 (qi 5) fun x32 =>
 brS x32 (kP (indexE (some (5, 3, true)) x16 x17) fun x33 =>
 kNew [qf, (qi 0), (qb 0)] h30 fun x34 h35 =>
 kSA 3 x34 x33 h35 fun _ h37 =>
 kLA 3 x34 h37 fun x38 =>
 kCv X x8 [x38] h37 fun x39 h40 =>
 jc (α := Cur 23) (fun _ x42 _ _ _ x46 _ _ _ x50 x51 _ _ _ _ _ _ _ _ _ _ _ _ h64 =>
 kBin .add x51 (qi 1) fun x66 =>
 n31 u x42 u u u x46 u u u x50 x66 u u u u u u u u u u u u h64) fun j65 =>
 brS x39 (kBS 1 [(qi 0)] 1 [(0, 1, x17)] h40 fun x67 h68 =>
 kAp 1 8 x12 x67 h68 fun x69 h70 =>
 j65 u x8 u u u x69 u u u x16 x17 u u u u u u u u u u u u h70) (j65 u x8 u u u x12 u u u x16 x17 u u u u u u u u u u u u h40)) (some (x12, h30))) k u x1 u u u .nils u u u x6 (qi 0) u u u u u u u u u u u u h4)
theorem p127_ok (k : Nat) : p127 k = funcS k 2 lit127 := by kernel_rfl
def p129 (_ : Nat) : CtxK → List V → TH → R := fun _ => ap 1 (fun x0 h1 =>
 kNew (V.cellsR x0) h1 fun x2 h3 =>
 kNew zr0 h3 fun x4 h5 =>
 kFA 0 x2 fun x6 =>
 kL1 x6 h5 fun x7 =>
 kFA 40 x2 fun x8 =>
 kLA 8 x8 h5 fun x9 =>
 kB zr0 [(0, 1, x7), (40, 8, x9)] fun x10 =>
 kSA 49 x4 x10 h5 fun _ h12 =>
 rsS [.cell 2 true 49] [x0, x2, x4, x6, x7, x8, x9, x10] h12)
theorem p129_ok (k : Nat) : p129 k = funcS k 1 lit129 := by kernel_rfl
def p135 (_ : Nat) : CtxK → List V → TH → R := fun X => ap 2 (fun x0 x1 h2 =>
 kL1 x1 h2 fun x3 =>
 kCall X 54 [x3, x0] h2 fun x4 h5 =>
 kNot x4 fun x6 =>
 some (x6, h5))
theorem p135_ok (k : Nat) : p135 k = funcS k 2 lit135 := by kernel_rfl
def p156 (_ : Nat) : CtxK → List V → TH → R := fun _ => ap 2 (fun x0 x1 h2 =>
 kIA 5 1 x1 x0 fun x3 =>
 kL1 x3 h2 fun x4 =>
 kNot x4 fun x5 =>
 some (x5, h2))
theorem p156_ok (k : Nat) : p156 k = funcS k 2 lit156 := by kernel_rfl
def p157 (_ : Nat) : CtxK → List V → TH → R := fun X => ap 2 (fun x0 x1 h2 =>
 kNew (V.cellsR x0) h2 fun x3 h4 =>
 kNew (V.cellsR x1) h4 fun x5 h6 =>
 kNew zr0 h6 fun x7 h8 =>
 kLA 49 x3 h8 fun x11 =>
 kCall X 50 [x11] h8 fun x12 h13 =>
 kNot x12 fun x14 =>
 jc (α := V → TH → PD → R) (fun x17 h18 d19 =>
 jc (α := V → TH → PD → R) (fun x23 h24 d25 =>
 jc (α := JT) (fun x27 h28 =>
 jc (α := JT) (fun x30 h31 =>
 jc (α := JT) (fun x33 h34 =>
 kPick x14 qt x33 fun x36 =>
 dokS [h8, h24, h28, h34] d25 (brS x36 (kB zr0 [] fun x37 =>
 kSA 49 x7 x37 h34 fun _ h39 =>
 rsS [.cell 4 true 49, .tmp 5] [x0, x1, x3, x5, x7, (qi 10), x11, x12, x14, x14, x17, x27, x23, x30, x33, x36, x37, u, u, u, u, u, u, u, u, u, u, u, u, u, u] h39) (kFA 48 x3 fun x40 =>
 kL1 x40 h34 fun x43 =>
 kLA 8 x5 h34 fun x46 =>
 kBS 8 zr2 1 [(0, 8, x46)] h34 fun x47 h48 =>
 kCall X 94 [x43] h48 fun x49 h50 =>
 kAp 8 40 x49 x47 h50 fun x51 h52 =>
 kFA 48 x3 fun x53 =>
 kS1 x53 x51 h52 fun _ h55 =>
 dokS [h48, h50, h52, h55] ((fun h44 => kLA 8 x5 h44 fun x45 =>
 some (x45, h44), x46, 0, 1) :: []) (kLA 49 x3 h55 fun x56 =>
 kFA 48 x3 fun x57 =>
 kL1 x57 h55 fun x58 =>
 kLen x58 fun x59 =>
 kBin .sub x59 (qi 6) fun x60 =>
 kP (minE true x60 (qi 0)) fun x61 =>
 kCall X 52 [x56, x61] h55 fun x62 h63 =>
 kSA 49 x7 x62 h63 fun _ h65 =>
 rsS [.cell 4 true 49, .tmp 5] [x0, x1, x3, x5, x7, (qi 0), x11, x12, x14, x14, x17, x27, x23, x30, x33, x36, u, x40, x43, x49, x46, x47, x51, x53, x56, x57, x58, x59, x60, x61, x62] h65)))) fun j35 =>
 wtS x14 false (kNot x30 fun x66 =>
 j35 x66 h31) (j35 u h31)) fun j32 =>
 wtS x14 false (kCall X 92 [x27, x23] h28 fun x67 h68 =>
 j32 x67 h68) (j32 u h28)) fun j29 =>
 wtS x14 false (kCall X 51 [x17] h24 fun x69 h70 =>
 j29 x69 h70) (j29 u h24)) fun j26 =>
 wtS x14 false (kLA 8 x5 h18 fun x71 =>
 j26 x71 h18 ((fun h21 => kLA 8 x5 h21 fun x22 =>
 some (x22, h21), x71, 1, 2) :: d19)) (j26 u h18 d19)) fun j20 =>
 wtS x14 false (kLA 49 x3 h13 fun x72 =>
 j20 x72 h13 []) (j20 u h13 []))
theorem p157_ok (k : Nat) : p157 k = funcS k 2 lit157 := by kernel_rfl
def p171 (k : Nat) : CtxK → List V → TH → R := fun X => ap 2 (fun x0 x1 h2 =>
 kBin .geq x1 (qb 4) fun x3 =>
 brS x3 (some (.nils, h2)) (kNilc x0 fun x4 =>
 kFA 3 x4 fun x5 =>
 kIA 4 1 x5 x1 fun x6 =>
 kL1 x6 h2 fun x7 =>
 kCall X 192 [x7] h2 fun x8 h9 =>
 kLen x8 fun x10 =>
 lp (α := Cur 33) (zN 33) (fun n45 _ _ _ _ _ x16 _ _ _ _ _ _ _ _ _ _ _ x28 x29 x30 _ _ _ _ _ _ _ _ _ _ _ _ _ h44 =>
 kBin .lss x30 x29 fun x46 =>
 brS x46 (kIS 2 x28 x30 fun x47 =>
 kLA 2 x47 h44 fun x48 =>
 kNew [(qw 0), .nils] h44 fun x49 h50 =>
 kSA 2 x49 x48 h50 fun _ h52 =>
 kFA 1 x49 fun x53 =>
 kL1 x53 h52 fun x54 =>
 kCall X 34 [x54] h52 fun x55 h56 =>
 kIS 2 x16 x30 fun x57 =>
 kFA 1 x57 fun x58 =>
 kS1 x58 x55 h56 fun _ h60 =>
 kBin .add x30 (qi 1) fun x61 =>
 n45 u u u u u x16 u u u u u u u u u u u x28 x29 x61 u u u u u u u u u u u u u h60) (some (x16, h44))) k u u u u u x8 u u u u u u u u u u u x8 x10 (qi 0) u u u u u u u u u u u u u h9))
theorem p171_ok (k : Nat) : p171 k = funcS k 2 lit171 := by kernel_rfl
def p172 (_ : Nat) : CtxK → List V → TH → R := fun X => ap 2 (fun x0 x1 h2 =>
 kNew (V.cellsR x0) h2 fun x3 h4 =>
 kNew (V.cellsR x1) h4 fun x5 h6 =>
 kFA 1 x5 fun x7 =>
 kL1 x7 h6 fun x8 =>
 kLen x8 fun x9 =>
 kBin .geq x9 (qi 2) fun x10 =>
 jc (α := JT) (fun x11 h12 =>
 jc (α := JT) (fun x14 h15 =>
 jc (α := JT) (fun x17 h18 =>
 jc (α := JT) (fun x20 h21 =>
 jc (α := JT) (fun x23 h24 =>
 kPick x10 x23 qf fun x26 =>
 jc (α := JT) (fun x27 h28 =>
 jc (α := JT) (fun x30 h31 =>
 jc (α := JT) (fun x33 h34 =>
 jc (α := JT) (fun x36 h37 =>
 jc (α := JT) (fun x39 h40 =>
 jc (α := JT) (fun x42 h43 =>
 kPick x26 x42 qf fun x45 =>
 some (x45, h43)) fun j44 =>
 wtS x26 true (kNot x39 fun x46 =>
 j44 x46 h40) (j44 u h40)) fun j41 =>
 wtS x26 true (kCall X 137 [x30, x36] h37 fun x47 h48 =>
 j41 x47 h48) (j41 u h37)) fun j38 =>
 wtS x26 true (j38 (.fn 193 [x33] []) h34) (j38 u h34)) fun j35 =>
 wtS x26 true (kLA 2 x3 h31 fun x49 =>
 j35 x49 h31) (j35 u h31)) fun j32 =>
 wtS x26 true (kL1 x27 h28 fun x50 =>
 j32 x50 h28) (j32 u h28)) fun j29 =>
 wtS x26 true (kFA 1 x5 fun x51 =>
 j29 x51 h24) (j29 u h24)) fun j25 =>
 wtS x10 true (kBin .geq x14 x20 fun x52 =>
 j25 x52 h21) (j25 u h21)) fun j22 =>
 wtS x10 true (kL1 x17 h18 fun x53 =>
 j22 x53 h18) (j22 u h18)) fun j19 =>
 wtS x10 true (kFA 1 x3 fun x54 =>
 j19 x54 h15) (j19 u h15)) fun j16 =>
 wtS x10 true (kL1 x11 h12 fun x55 =>
 j16 x55 h12) (j16 u h12)) fun j13 =>
 wtS x10 true (kFA 0 x5 fun x56 =>
 j13 x56 h6) (j13 u h6))
theorem p172_ok (k : Nat) : p172 k = funcS k 2 lit172 := by kernel_rfl
def p174 (_ : Nat) : CtxK → List V → TH → R := fun X => ap 2 (fun x0 x1 h2 =>
 kNew (V.cellsR x0) h2 fun x3 h4 =>
 kL1 x1 h4 fun x5 =>
 kLA 2 x3 h4 fun x6 =>
 kCv X x5 [x6] h4 fun x7 h8 =>
 kNot x7 fun x9 =>
 some (x9, h8))
theorem p174_ok (k : Nat) : p174 k = funcS k 2 lit174 := by kernel_rfl
def p175 (k : Nat) : CtxK → List V → TH → R := fun X => ap 2 (fun x0 x1 h2 =>
 kLen x0 fun x3 =>
 lp (α := Cur 19) (zN 19) (fun n24 x4 x5 _ _ _ _ _ x11 x12 _ _ _ _ _ _ _ _ _ _ h23 =>
 kBin .lss x12 x11 fun x25 =>
 brS x25 (kIS 49 x4 x12 fun x26 =>
 kLA 49 x26 h23 fun x27 =>
 kCv X x5 [x27] h23 fun x28 h29 =>
 brS x28 (some (x12, h29)) (kBin .add x12 (qi 1) fun x30 =>
 n24 x4 x5 u u u u u x11 x30 u u u u u u u u u u h29)) (some ((.int .i64 (-1)), h23))) k x0 x1 u u u u u x3 (qi 0) u u u u u u u u u u h2)
theorem p175_ok (k : Nat) : p175 k = funcS k 2 lit175 := by kernel_rfl
def p176 (_ : Nat) : CtxK → List V → TH → R := fun X => ap 1 (fun x0 h1 =>
 kNew (V.cellsR x0) h1 fun x2 h3 =>
 kLA 16 x2 h3 fun x4 =>
 kCall X 127 [x4, (.fn 195 [] [])] h3 fun x5 h6 =>
 some (x5, h6))
theorem p176_ok (k : Nat) : p176 k = funcS k 1 lit176 := by kernel_rfl
def p183 (_ : Nat) : CtxK → List V → TH → R := fun _ => ap 1 (fun x0 h1 =>
 kEqI true x0 x0 fun x2 =>
 some (x2, h1))
theorem p183_ok (k : Nat) : p183 k = funcS k 1 lit183 := by kernel_rfl
def p187 (_ : Nat) : CtxK → List V → TH → R := fun X => ap 2 (fun x0 x1 h2 =>
 kNew (V.cellsR x0) h2 fun x3 h4 =>
 kNew zr0 h4 fun x5 h6 =>
 kLA 49 x3 h6 fun x7 =>
 kCall X 50 [x7] h6 fun x8 h9 =>
 kNot x8 fun x10 =>
 brS x10 (kB zr0 [] fun x11 =>
 kSA 49 x5 x11 h9 fun _ h13 =>
 rsS [.cell 4 true 49, .tmp 5] [x0, x1, x3, u, x5, (qi 10), x10, x7, x8, x10, x11, u, u, u, u, u, u, u, u, u, u, u, u, u, u, u, u, u, u] h13) (kFA 40 x3 fun x14 =>
 kFA 1 x14 fun x15 =>
 kL1 x15 h9 fun x16 =>
 kBin .lss x1 x16 fun x17 =>
 brS x17 (kB zr0 [] fun x18 =>
 kSA 49 x5 x18 h9 fun _ h20 =>
 rsS [.cell 4 true 49, .tmp 5] [x0, x1, x3, u, x5, (qi 80), x10, x7, x8, x10, u, x17, x1, x14, x15, x16, x17, x18, u, u, u, u, u, u, u, u, u, u, u] h20) (kLA 49 x3 h9 fun x21 =>
 kCall X 190 [x21, x1] h9 fun x22 h23 =>
 kBin .lss x22 (qi 0) fun x24 =>
 brS x24 (kB zr0 [] fun x25 =>
 kSA 49 x5 x25 h23 fun _ h27 =>
 rsS [.cell 4 true 49, .tmp 5] [x0, x1, x3, u, x5, (qi 141), x10, x7, x8, x10, u, x17, x1, x14, x15, x16, x17, u, x24, x21, x1, x22, x24, x25, u, u, u, u, u] h27) (kLA 49 x3 h23 fun x30 =>
 kLA 49 x3 h23 fun x33 =>
 kCall X 190 [x33, x1] h23 fun x34 h35 =>
 kCall X 52 [x30, x34] h35 fun x36 h37 =>
 kSA 49 x5 x36 h37 fun _ h39 =>
 dokS [h23, h35, h37, h39] ((fun h28 => kLA 49 x3 h28 fun x29 =>
 some (x29, h28), x30, 0, 1) :: []) (rsS [.cell 4 true 49, .tmp 5] [x0, x1, x3, u, x5, (qi 0), x10, x7, x8, x10, u, x17, x1, x14, x15, x16, x17, u, x24, x21, x1, x22, x24, u, x30, x33, x1, x34, x36] h39)))))
theorem p187_ok (k : Nat) : p187 k = funcS k 2 lit187 := by kernel_rfl
def p191 (_ : Nat) : CtxK → List V → TH → R := fun X => ap 2 (fun x0 x1 h2 =>
 kP (lenV true x0) fun x3 =>
 kBin .sub x1 x3 fun x4 =>
 kP (minE true x4 (qi 0)) fun x5 =>
 kCall X 200 [(.str (bs [0])), x5] h2 fun x6 h7 =>
 kBin .add x0 x6 fun x8 =>
 some (x8, h7))
theorem p191_ok (k : Nat) : p191 k = funcS k 2 lit191 := by kernel_rfl
def p193 (_ : Nat) : CtxK → List V → TH → R := fun X => ap 2 (fun x0 x1 h2 =>
 kNew (V.cellsR x0) h2 fun x3 h4 =>
 kFA 0 x3 fun x5 =>
 kL1 x5 h4 fun x6 =>
 kCall X 54 [x6, x1] h4 fun x7 h8 =>
 some (x7, h8))
theorem p193_ok (k : Nat) : p193 k = funcS k 2 lit193 := by kernel_rfl
def p196 (k : Nat) : CtxK → List V → TH → R := fun X => ap 2 (fun x0 x1 h2 =>
 kNilc x0 fun x3 =>
 kFA 17 x3 fun x4 =>
 kL1 x4 h2 fun x5 =>
 kLen x5 fun x6 =>
 lp (α := Cur 44) (zN 44) (fun n52 x7 x8 _ _ _ x12 _ _ _ _ _ x18 x19 x20 _ _ _ _ _ _ _ _ _ _ _ _ _ _ _ _ _ _ _ _ _ _ _ _ _ _ _ _ _ _ h51 =>
 kBin .lss x20 x19 fun x53 =>
 brS x53 (kIS 1 x18 x20 fun x54 =>
 kL1 x54 h51 fun x55 =>
 kNilc x7 fun x56 =>
 kFA 16 x56 fun x57 =>
 kL1 x57 h51 fun x60 =>
 kNilc x7 fun x61 =>
 kFA 0 x61 fun x62 =>
 kFA 1 x62 fun x63 =>
 kIA 5 3 x63 x55 fun x64 =>
 kFA 1 x64 fun x65 =>
 kL1 x65 h51 fun x68 =>
 kCall X 201 [x60, x55, x8, x68] h51 fun x69 h70 =>
 kBS 1 [(qi 0)] 1 [(0, 1, x69)] h70 fun x71 h72 =>
 kAp 1 8 x12 x71 h72 fun x73 h74 =>
 dokS [h51, h72, h74] [] (kBin .add x20 (qi 1) fun x75 =>
 n52 x7 x8 u u u x73 u u u u u x18 x19 x75 u u u u u u u u u u u u u u u u u u u u u u u u u u u u u u h74)) (kNilc x7 fun x76 =>
 kFA 17 x76 fun x77 =>
 kL1 x77 h51 fun x80 =>
 kCall X 202 [x12] h51 fun x81 h82 =>
 kIS 1 x80 x81 fun x83 =>
 kL1 x83 h82 fun x86 =>
 dokS [h51, h82] ((fun h78 => kL1 x77 h78 fun x79 =>
 some (x79, h78), x80, 0, 1) :: []) (some (x86, h82)))) k x0 x1 u u u .nils u u u u u x5 x6 (qi 0) u u u u u u u u u u u u u u u u u u u u u u u u u u u u u u h2)
theorem p196_ok (k : Nat) : p196 k = funcS k 2 lit196 := by kernel_rfl
def p211 (_ : Nat) : CtxK → List V → TH → R := fun X => ap 2 (fun x0 x1 h2 =>
 kP (minE true x1 (qi 1)) fun x3 =>
 kP (minE false x3 (qi 16)) fun x4 =>
 kBin .rem x0 (qw 65536) fun x5 =>
 kBin .add x5 (qw 1) fun x6 =>
 kCall X 222 [x6] h2 fun x7 h8 =>
 kBin .sub (qi 1048576) x7 fun x9 =>
 kBin .mul x9 (qi 4096) fun x10 =>
 kBin .quo x10 x4 fun x11 =>
 kP (unE .neg x11) fun x12 =>
 some (x12, h8))
theorem p211_ok (k : Nat) : p211 k = funcS k 2 lit211 := by kernel_rfl
def p222 (k : Nat) : CtxK → List V → TH → R := fun X => ap 1 (fun x0 h1 =>
 kP (minE true x0 (qw 1)) fun x2 =>
 kP (minE false x2 (qw 65536)) fun x3 =>
 kCall X 153 [x3] h1 fun x4 h5 =>
 kBin .sub x4 (qi 1) fun x6 =>
 kConv .u64 x3 fun x7 =>
 kBin .sub (qi 31) x6 fun x8 =>
 kBin .shl x7 x8 fun x9 =>
 kB [(.int .u64 0), (qi 0)] [(0, 1, x9)] fun x10 =>
 kNew (V.cellsR x10) h5 fun x11 h12 =>
 lp (α := Cur 33) (zN 33) (fun n47 _ _ _ x16 x17 x18 _ _ _ _ _ _ _ _ _ _ _ _ _ _ _ x34 _ _ _ _ _ _ _ _ _ _ _ h46 =>
 kBin .lss x34 (qi 16) fun x48 =>
 brS x48 (kCv X x18 [] h46 fun _ h50 =>
 kBin .add x34 (qi 1) fun x51 =>
 n47 u u u x16 x17 x18 u u u u u u u u u u u u u u u x51 u u u u u u u u u u u h50) (kBin .shl x16 (.int .u64 16) fun x52 =>
 kNilc x17 fun x53 =>
 kFA 1 x53 fun x54 =>
 kL1 x54 h46 fun x55 =>
 kBin .add x52 x55 fun x56 =>
 some (x56, h46))) k u u u x6 x11 (.fn 229 [x11] []) u u u u u u u u u u u u u u u (qi 0) u u u u u u u u u u u h12)
theorem p222_ok (k : Nat) : p222 k = funcS k 1 lit222 := by kernel_rfl
end
end Go.PE
