/- The same functions with names for their slots (part 2 of 4), printed by a program of our own: each is what the evaluator's law says of the literal. -/
import Derived.Test.YtcgjkbnijnefjaaGreatDoorMvL3
import Derived.KernelRfl
namespace Go.PE
set_option maxRecDepth 100000
noncomputable section
def p9 (_ : Nat) : CtxK → List V → TH → R := fun X => ap 1 (fun x0 h1 =>
 kNew (V.cellsR x0) h1 fun x2 h3 =>
 kLA 6 x2 h3 fun x4 =>
 kCall X 33 [x4] h3 fun x5 h6 =>
 jc (α := JT) (fun x7 h8 =>
 jc (α := JT) (fun x10 h11 =>
 jc (α := JT) (fun x13 h14 =>
 kPick x5 x13 qf fun x16 =>
 some (x16, h14)) fun j15 =>
 wtS x5 true (kEqI true x10 (qb 5) fun x17 =>
 j15 x17 h11) (j15 u h11)) fun j12 =>
 wtS x5 true (kL1 x7 h8 fun x18 =>
 j12 x18 h8) (j12 u h8)) fun j9 =>
 wtS x5 true (kFA 2 x2 fun x19 =>
 j9 x19 h6) (j9 u h6))
theorem p9_ok (k : Nat) : p9 k = funcS k 1 lit9 := by kernel_rfl
def p11 (k : Nat) : CtxK → List V → TH → R := fun X => ap 1 (fun x0 h1 =>
 lp (α := Cur 24) (zN 24) (fun n27 x2 _ _ x5 _ _ _ _ _ _ _ _ _ _ _ _ _ _ _ _ _ _ _ _ h26 =>
 kBin .lss x5 (qi 3000) fun x28 =>
 jc (α := JT) (fun x29 h30 =>
 jc (α := JT) (fun x32 h33 =>
 jc (α := JT) (fun x35 h36 =>
 jc (α := JT) (fun x38 h39 =>
 jc (α := JT) (fun x41 h42 =>
 jc (α := JT) (fun x44 h45 =>
 kPick x28 x44 qf fun x47 =>
 brS x47 (kCall X 18 [x2, (qi 0)] h45 fun _ h49 =>
 kBin .add x5 (qi 1) fun x50 =>
 n27 x2 u u x50 u u u u u u u u u u u u u u u u u u u u h49) (kNilc x2 fun x51 =>
 kFA 7 x51 fun x52 =>
 kL1 x52 h45 fun x53 =>
 kLen x53 fun x54 =>
 kEqI false x54 (qi 0) fun x55 =>
 some (x55, h45))) fun j46 =>
 wtS x28 true (kBin .gtr x41 (qi 0) fun x56 =>
 j46 x56 h42) (j46 u h42)) fun j43 =>
 wtS x28 true (kLen x38 fun x57 =>
 j43 x57 h39) (j43 u h39)) fun j40 =>
 wtS x28 true (kL1 x35 h36 fun x58 =>
 j40 x58 h36) (j40 u h36)) fun j37 =>
 wtS x28 true (kFA 7 x32 fun x59 =>
 j37 x59 h33) (j37 u h33)) fun j34 =>
 wtS x28 true (kNilc x29 fun x60 =>
 j34 x60 h30) (j34 u h30)) fun j31 =>
 wtS x28 true (j31 x2 h26) (j31 u h26)) k x0 u u (qi 0) u u u u u u u u u u u u u u u u u u u u h1)
theorem p11_ok (k : Nat) : p11 k = funcS k 1 lit11 := by kernel_rfl
def p13 (_ : Nat) : CtxK → List V → TH → R := fun X => ap 1 (fun x0 h1 =>
 kNew zr0 h1 fun x2 h3 =>
 kNilc x0 fun x4 =>
 kFA 3 x4 fun x5 =>
 kLA 49 x5 h3 fun x6 =>
 kCall X 36 [x6] h3 fun x7 h8 =>
 kSA 49 x2 x7 h8 fun _ h10 =>
 rsS [.cell 2 true 49] [x0, u, x2, x0, x4, x5, x6, x7] h10)
theorem p13_ok (k : Nat) : p13 k = funcS k 1 lit13 := by kernel_rfl
def p18 (_ : Nat) : CtxK → List V → TH → R := fun X => ap 2 (fun x0 x1 h2 =>
 kNilc x0 fun x3 =>
 kFA 7 x3 fun x4 =>
 kL1 x4 h2 fun x5 =>
 kIS 131 x5 x1 fun x6 =>
 kLA 131 x6 h2 fun x7 =>
 kNew zr1 h2 fun x8 h9 =>
 kSA 131 x8 x7 h9 fun _ h11 =>
 kNilc x0 fun x12 =>
 kFA 7 x12 fun x13 =>
 kL1 x13 h11 fun x16 =>
 kP (sliceE 131 x16 none (some x1)) fun x17 =>
 kNilc x0 fun x18 =>
 kFA 7 x18 fun x19 =>
 kL1 x19 h11 fun x22 =>
 kBin .add x1 (qi 1) fun x23 =>
 kP (sliceE 131 x22 (some x23) none) fun x24 =>
 kAp 131 1400 .nils x17 h11 fun x25 h26 =>
 kAp 131 1400 x25 x24 h26 fun x27 h28 =>
 kNilc x0 fun x29 =>
 kFA 7 x29 fun x30 =>
 kS1 x30 x27 h28 fun _ h32 =>
 dokS [h11, h26, h28, h32] ((fun h20 => kL1 x19 h20 fun x21 =>
 some (x21, h20), x22, 0, 1) :: []) (kFA 2 x8 fun x33 =>
 kL1 x33 h32 fun x34 =>
 kBin .geq x34 (qb 20) fun x35 =>
 brS x35 (kNilc x0 fun x36 =>
 kFA 8 x36 fun x37 =>
 kL1 x37 h32 fun x40 =>
 kLA 131 x8 h32 fun x43 =>
 kBS 131 zr1 1 [(0, 131, x43)] h32 fun x44 h45 =>
 kAp 131 1400 x40 x44 h45 fun x46 h47 =>
 kNilc x0 fun x48 =>
 kFA 8 x48 fun x49 =>
 kS1 x49 x46 h47 fun _ h51 =>
 dokS [h45, h47, h51] [] (some (.tup [], h51))) (kNilc x0 fun x52 =>
 kFA 7 x52 fun x53 =>
 kL1 x53 h32 fun x56 =>
 kFA 2 x8 fun x57 =>
 kL1 x57 h32 fun x60 =>
 kBin .sub x60 (qb 10) fun x61 =>
 kNilc x0 fun x62 =>
 kFA 2 x62 fun x63 =>
 kIA 5 1 x63 x61 fun x64 =>
 kL1 x64 h32 fun x67 =>
 kNilc x0 fun x68 =>
 kFA 0 x68 fun x69 =>
 kL1 x69 h32 fun x72 =>
 kLA 131 x8 h32 fun x75 =>
 kCall X 14 [x67, x72, x75] h32 fun x76 h77 =>
 kAp 131 1400 x56 x76 h77 fun x78 h79 =>
 kNilc x0 fun x80 =>
 kFA 7 x80 fun x81 =>
 kS1 x81 x78 h79 fun _ h83 =>
 dokS [h32, h77, h79, h83] ((fun h54 => kL1 x53 h54 fun x55 =>
 some (x55, h54), x56, 0, 1) :: []) (some (.tup [], h83)))))
theorem p18_ok (k : Nat) : p18 k = funcS k 2 lit18 := by kernel_rfl
def p23 (_ : Nat) : CtxK → List V → TH → R := fun X => ap 1 (fun x0 h1 =>
 kNew (V.cellsR x0) h1 fun x2 h3 =>
 kNew zr5 h3 fun x4 h5 =>
 kLA 49 x2 h5 fun x6 =>
 kCall X 50 [x6] h5 fun x7 h8 =>
 kNot x7 fun x9 =>
 brS x9 (kB zr5 [] fun x10 =>
 kSA 39 x4 x10 h8 fun _ h12 =>
 rsS [.cell 2 true 39] [x0, x2, x4, x6, x7, x9, x10, u, u, u, u, u, u] h12) (kLA 49 x2 h8 fun x13 =>
 kFA 48 x2 fun x14 =>
 kL1 x14 h8 fun x15 =>
 kLen x15 fun x16 =>
 kCall X 52 [x13, x16] h8 fun x17 h18 =>
 kP (fieldE true 1 39 x17) fun x19 =>
 kSA 39 x4 x19 h18 fun _ h21 =>
 rsS [.cell 2 true 39] [x0, x2, x4, x6, x7, x9, u, x13, x14, x15, x16, x17, x19] h21))
theorem p23_ok (k : Nat) : p23 k = funcS k 1 lit23 := by kernel_rfl
def p26 (_ : Nat) : CtxK → List V → TH → R := fun _ => ap 1 (fun x0 h1 =>
 kNilc x0 fun x2 =>
 kFA 1 x2 fun x3 =>
 kL1 x3 h1 fun x4 =>
 some (x4, h1))
theorem p26_ok (k : Nat) : p26 k = funcS k 1 lit26 := by kernel_rfl
def p27 (k : Nat) : CtxK → List V → TH → R := fun X => ap 2 (fun x0 x1 h2 =>
 kNew (V.cellsR x1) h2 fun x3 h4 =>
 kNilc x0 fun x5 =>
 kFA 0 x5 fun x6 =>
 kL1 x6 h4 fun x9 =>
 kNilc x0 fun x10 =>
 kFA 0 x10 fun x11 =>
 kL1 x11 h4 fun x14 =>
 kLA 3 x3 h4 fun x17 =>
 kCall X 58 [x14] h4 fun x18 h19 =>
 kBin .add x18 (qw 1) fun x20 =>
 kCall X 57 [x9, x20, x17] h19 fun _ h22 =>
 dokS [h4, h19, h22] ((fun h15 => kLA 3 x3 h15 fun x16 =>
 some (x16, h15), x17, 0, 1) :: ((fun h7 => kL1 x6 h7 fun x8 =>
 some (x8, h7), x9, 0, 1) :: [])) (lp (α := Cur 40) (zN 40) (fun n64 x23 _ _ _ x27 _ _ _ _ _ _ _ _ _ _ _ _ _ _ _ _ _ _ _ _ _ _ _ _ _ _ _ _ _ _ _ _ _ _ _ h63 =>
 kBin .lss x27 (qi 5) fun x65 =>
 brS x65 (kNilc x23 fun x66 =>
 kFA 7 x66 fun x67 =>
 kL1 x67 h63 fun x70 =>
 kNilc x23 fun x71 =>
 kFA 2 x71 fun x72 =>
 kIA 5 1 x72 x27 fun x73 =>
 kL1 x73 h63 fun x76 =>
 kNilc x23 fun x77 =>
 kFA 0 x77 fun x78 =>
 kL1 x78 h63 fun x81 =>
 kCall X 25 [x76, x81] h63 fun x82 h83 =>
 kAp 131 1400 x70 x82 h83 fun x84 h85 =>
 kNilc x23 fun x86 =>
 kFA 7 x86 fun x87 =>
 kS1 x87 x84 h85 fun _ h89 =>
 dokS [h63, h83, h85, h89] ((fun h68 => kL1 x67 h68 fun x69 =>
 some (x69, h68), x70, 0, 1) :: []) (kBin .add x27 (qi 1) fun x90 =>
 n64 x23 u u u x90 u u u u u u u u u u u u u u u u u u u u u u u u u u u u u u u u u u u h89)) (some (.tup [], h63))) k x0 u u u (qi 0) u u u u u u u u u u u u u u u u u u u u u u u u u u u u u u u u u u u h22))
theorem p27_ok (k : Nat) : p27 k = funcS k 2 lit27 := by kernel_rfl
def p35 (_ : Nat) : CtxK → List V → TH → R := fun _ => ap 2 (fun x0 x1 h2 =>
 kNew [(qw 0), .nils] h2 fun x3 h4 =>
 kBin .geq x1 (qb 4) fun x5 =>
 brS x5 (kB [(qw 0), .nils] [] fun x6 =>
 kSA 2 x3 x6 h4 fun _ h8 =>
 rsS [.cell 4 true 2] [x0, x1, u, u, x3, u, x1, x5, x6, u, u, u, u, u, u, u, u, u, u, u, u] h8) (kNilc x0 fun x9 =>
 kFA 3 x9 fun x10 =>
 kIA 4 1 x10 x1 fun x11 =>
 kL1 x11 h4 fun x12 =>
 kLen x12 fun x13 =>
 kBin .sub x13 (qi 1) fun x14 =>
 kIS 2 x12 x14 fun x15 =>
 kLA 2 x15 h4 fun x16 =>
 kSA 2 x3 x16 h4 fun _ h18 =>
 rsS [.cell 4 true 2] [x0, x1, u, u, x3, x12, x1, x5, u, x0, x1, x9, x10, x11, x12, x12, x12, x13, x14, x15, x16] h18))
theorem p35_ok (k : Nat) : p35 k = funcS k 2 lit35 := by kernel_rfl
def p42 (_ : Nat) : CtxK → List V → TH → R := fun X => ap 2 (fun x0 x1 h2 =>
 kNew (V.cellsR x1) h2 fun x3 h4 =>
 kCall X 34 [x0] h4 fun x5 h6 =>
 kCall X 85 [x5, (.fn 86 [] [x3])] h6 fun x7 h8 =>
 some (x7, h8))
theorem p42_ok (k : Nat) : p42 k = funcS k 2 lit42 := by kernel_rfl
def p47 (_ : Nat) : CtxK → List V → TH → R := fun X => ap 3 (fun x0 x1 x2 h3 =>
 kNew (V.cellsR x2) h3 fun x4 h5 =>
 kNew zr1 h5 fun x6 h7 =>
 kCall X 89 [x0, (qb 11), x1] h7 fun x8 h9 =>
 kNew zr1 h9 fun x10 h11 =>
 kSA 131 x10 x8 h11 fun _ h13 =>
 kLA 8 x4 h13 fun x14 =>
 kFA 114 x10 fun x15 =>
 kSA 8 x15 x14 h13 fun _ h17 =>
 kLA 131 x10 h17 fun x18 =>
 kSA 131 x6 x18 h17 fun _ h20 =>
 rsS [.cell 6 true 131] [x0, x1, x2, u, u, x4, x6, x10, x0, x1, x8, x14, x15, x18] h20)
theorem p47_ok (k : Nat) : p47 k = funcS k 3 lit47 := by kernel_rfl
def p50 (k : Nat) : CtxK → List V → TH → R := fun X => ap 1 (fun x0 h1 =>
 kNew (V.cellsR x0) h1 fun x2 h3 =>
 kFA 0 x2 fun x4 =>
 kL1 x4 h3 fun x5 =>
 kBin .gtr x5 (qw 60) fun x6 =>
 jc (α := JT) (fun x7 h8 =>
 jc (α := JT) (fun x10 h11 =>
 jc (α := JT) (fun x13 h14 =>
 jc (α := JT) (fun x16 h17 =>
 kPick x6 qt x16 fun x19 =>
 jc (α := JT) (fun x20 h21 =>
 jc (α := JT) (fun x23 h24 =>
 jc (α := JT) (fun x26 h27 =>
 jc (α := JT) (fun x29 h30 =>
 jc (α := JT) (fun x32 h33 =>
 kPick x19 qt x32 fun x35 =>
 jc (α := JT) (fun x36 h37 =>
 jc (α := JT) (fun x39 h40 =>
 jc (α := JT) (fun x42 h43 =>
 jc (α := JT) (fun x45 h46 =>
 kPick x35 qt x45 fun x48 =>
 jc (α := JT) (fun x49 h50 =>
 jc (α := JT) (fun x52 h53 =>
 jc (α := JT) (fun x55 h56 =>
 jc (α := JT) (fun x58 h59 =>
 kPick x48 qt x58 fun x61 =>
 brS x61 (some (qf, h59)) (kFA 40 x2 fun x62 =>
 kLA 8 x62 h59 fun x63 =>
 kNew zr2 h59 fun x64 h65 =>
 kSA 8 x64 x63 h65 fun _ h67 =>
 kFA 48 x2 fun x68 =>
 kL1 x68 h67 fun x69 =>
 kLen x69 fun x70 =>
 lp (α := Cur 49) (zN 49) (fun n121 _ _ _ x74 _ _ _ _ _ _ _ _ _ _ _ _ _ _ _ _ _ _ _ _ _ _ _ _ _ _ _ _ _ _ _ _ _ x108 x109 x110 _ _ _ _ _ _ _ _ _ h120 =>
 kBin .lss x110 x109 fun x122 =>
 brS x122 (kIS 8 x108 x110 fun x123 =>
 kLA 8 x123 h120 fun x124 =>
 kNew zr2 h120 fun x125 h126 =>
 kSA 8 x125 x124 h126 fun _ h128 =>
 kLA 8 x74 h128 fun x129 =>
 kLA 8 x125 h128 fun x130 =>
 kCall X 92 [x129, x130] h128 fun x131 h132 =>
 kNot x131 fun x133 =>
 brS x133 (some (qf, h132)) (kLA 8 x125 h132 fun x134 =>
 kSA 8 x74 x134 h132 fun _ h136 =>
 kBin .add x110 (qi 1) fun x137 =>
 n121 u u u x74 u u u u u u u u u u u u u u u u u u u u u u u u u u u u u u u u u x108 x109 x137 u u u u u u u u u h136)) (some (qt, h120))) k u u u x64 u u u u u u u u u u u u u u u u u u u u u u u u u u u u u u u u u x69 x70 (qi 0) u u u u u u u u u h67)) fun j60 =>
 wtS x48 false (kNot x55 fun x138 =>
 j60 x138 h56) (j60 u h56)) fun j57 =>
 wtS x48 false (kCall X 91 [x52] h53 fun x139 h140 =>
 j57 x139 h140) (j57 u h53)) fun j54 =>
 wtS x48 false (kLA 39 x49 h50 fun x141 =>
 j54 x141 h50) (j54 u h50)) fun j51 =>
 wtS x48 false (kFA 1 x2 fun x142 =>
 j51 x142 h46) (j51 u h46)) fun j47 =>
 wtS x35 false (kBin .gtr x42 (qi 6) fun x143 =>
 j47 x143 h43) (j47 u h43)) fun j44 =>
 wtS x35 false (kLen x39 fun x144 =>
 j44 x144 h40) (j44 u h40)) fun j41 =>
 wtS x35 false (kL1 x36 h37 fun x145 =>
 j41 x145 h37) (j41 u h37)) fun j38 =>
 wtS x35 false (kFA 48 x2 fun x146 =>
 j38 x146 h33) (j38 u h33)) fun j34 =>
 wtS x19 false (kEq' true (.agg [.int, .int, .int, .int, .int, .str]) x26 x29 fun x147 =>
 j34 x147 h30) (j34 u h30)) fun j31 =>
 wtS x19 false (kB [(qb 0), (qw 0), (qb 0), (qb 0), (qb 0), qs] [] fun x148 =>
 j31 x148 h27) (j31 u h27)) fun j28 =>
 wtS x19 false (kLA 6 x23 h24 fun x149 =>
 j28 x149 h24) (j28 u h24)) fun j25 =>
 wtS x19 false (kFA 2 x20 fun x150 =>
 j25 x150 h21) (j25 u h21)) fun j22 =>
 wtS x19 false (kFA 40 x2 fun x151 =>
 j22 x151 h17) (j22 u h17)) fun j18 =>
 wtS x6 false (kBin .gtr x13 (qw 60) fun x152 =>
 j18 x152 h14) (j18 u h14)) fun j15 =>
 wtS x6 false (kL1 x10 h11 fun x153 =>
 j15 x153 h11) (j15 u h11)) fun j12 =>
 wtS x6 false (kFA 0 x7 fun x154 =>
 j12 x154 h8) (j12 u h8)) fun j9 =>
 wtS x6 false (kFA 40 x2 fun x155 =>
 j9 x155 h3) (j9 u h3))
theorem p50_ok (k : Nat) : p50 k = funcS k 1 lit50 := by kernel_rfl
def p55 (_ : Nat) : CtxK → List V → TH → R := fun _ => ap 1 (fun x0 h1 =>
 kNilc x0 fun x2 =>
 kFA 53 x2 fun x3 =>
 kL1 x3 h1 fun x4 =>
 kLen x4 fun x5 =>
 kEqI false x5 (qi 0) fun x6 =>
 brS x6 (some ((.int .i64 (-1)), h1)) (kNilc x0 fun x7 =>
 kFA 53 x7 fun x8 =>
 kL1 x8 h1 fun x9 =>
 kIS 1 x9 (qi 0) fun x10 =>
 kL1 x10 h1 fun x11 =>
 some (x11, h1)))
theorem p55_ok (k : Nat) : p55 k = funcS k 1 lit55 := by kernel_rfl
def p59 (k : Nat) : CtxK → List V → TH → R := fun X => ap 2 (fun x0 x1 h2 =>
 kNew (V.cellsR x1) h2 fun x3 h4 =>
 kNilc x0 fun x5 =>
 kFA 0 x5 fun x6 =>
 kL1 x6 h4 fun x9 =>
 kFA 0 x3 fun x10 =>
 kL1 x10 h4 fun x13 =>
 kLA 16 x3 h4 fun x16 =>
 kMU x9 x13 x16 h4 fun _ h18 =>
 dokS [h4, h18] [] (kFA 0 x3 fun x19 =>
 kL1 x19 h18 fun x20 =>
 kNilc x0 fun x21 =>
 kFA 2 x21 fun x22 =>
 kS1 x22 x20 h18 fun _ h24 =>
 lp (α := Cur 60) (zN 60) (fun n86 x25 _ _ x28 _ _ _ _ _ _ _ _ _ _ _ _ _ _ _ x44 _ _ _ _ _ _ _ _ _ _ _ _ _ _ _ _ _ _ _ _ _ _ _ _ _ _ _ _ _ _ _ _ _ _ _ _ _ _ _ _ h85 =>
 kBin .lss x44 (qi 4) fun x87 =>
 brS x87 (kLA 16 x28 h85 fun x88 =>
 kConv .u8 x44 fun x89 =>
 kCall X 100 [x88, x89] h85 fun x90 h91 =>
 kNilc x25 fun x92 =>
 kFA 3 x92 fun x93 =>
 kIA 4 1 x93 x44 fun x94 =>
 kL1 x94 h91 fun x95 =>
 kLen x95 fun x96 =>
 kEqI false x96 (qi 0) fun x97 =>
 jc (α := JT) (fun x98 h99 =>
 jc (α := JT) (fun x101 h102 =>
 jc (α := JT) (fun x104 h105 =>
 jc (α := JT) (fun x107 h108 =>
 jc (α := JT) (fun x110 h111 =>
 jc (α := JT) (fun x113 h114 =>
 jc (α := JT) (fun x116 h117 =>
 jc (α := JT) (fun x119 h120 =>
 jc (α := JT) (fun x122 h123 =>
 jc (α := JT) (fun x125 h126 =>
 kPick x97 qt x125 fun x128 =>
 jc (α := Cur 60) (fun x129 _ _ x132 _ _ _ _ _ _ _ _ _ _ _ _ _ _ _ x148 _ _ _ _ _ _ _ _ _ _ _ _ _ _ _ _ _ _ _ _ _ _ _ _ _ _ _ _ _ _ _ _ _ _ _ _ _ _ _ _ h189 =>
 kBin .add x148 (qi 1) fun x191 =>
 n86 x129 u u x132 u u u u u u u u u u u u u u u x191 u u u u u u u u u u u u u u u u u u u u u u u u u u u u u u u u u u u u u u u u h189) fun j190 =>
 brS x128 (kFA 0 x28 fun x192 =>
 kL1 x192 h126 fun x195 =>
 kB [(qw 0), .nils] [(0, 1, x195), (1, 1, x90)] fun x196 =>
 kBS 2 [(qw 0), .nils] 1 [(0, 2, x196)] h126 fun x197 h198 =>
 kNilc x25 fun x199 =>
 kFA 3 x199 fun x200 =>
 kAp 2 32 x95 x197 h198 fun x201 h202 =>
 kIA 4 1 x200 x44 fun x203 =>
 kS1 x203 x201 h202 fun _ h205 =>
 dokS [h198, h202, h205] [] (j190 x25 u u x28 u u u u u u u u u u u u u u u x44 u u u u u u u u u u u u u u u u u u u u u u u u u u u u u u u u u u u u u u u u h205)) (j190 x25 u u x28 u u u u u u u u u u u u u u u x44 u u u u u u u u u u u u u u u u u u u u u u u u u u u u u u u u u u u u u u u u h126)) fun j127 =>
 wtS x97 false (kNot x122 fun x206 =>
 j127 x206 h123) (j127 u h123)) fun j124 =>
 wtS x97 false (kCall X 101 [x116, x119] h120 fun x207 h208 =>
 j124 x207 h208) (j124 u h120)) fun j121 =>
 wtS x97 false (j121 x90 h117) (j121 u h117)) fun j118 =>
 wtS x97 false (kL1 x113 h114 fun x209 =>
 j118 x209 h114) (j118 u h114)) fun j115 =>
 wtS x97 false (kFA 1 x110 fun x210 =>
 j115 x210 h111) (j115 u h111)) fun j112 =>
 wtS x97 false (kIS 2 x98 x107 fun x211 =>
 j112 x211 h108) (j112 u h108)) fun j109 =>
 wtS x97 false (kBin .sub x104 (qi 1) fun x212 =>
 j109 x212 h105) (j109 u h105)) fun j106 =>
 wtS x97 false (kLen x101 fun x213 =>
 j106 x213 h102) (j106 u h102)) fun j103 =>
 wtS x97 false (j103 x95 h99) (j103 u h99)) fun j100 =>
 wtS x97 false (j100 x95 h91) (j100 u h91)) (some (.tup [], h85))) k x0 u u x3 u u u u u u u u u u u u u u u (qi 0) u u u u u u u u u u u u u u u u u u u u u u u u u u u u u u u u u u u u u u u u h24))
theorem p59_ok (k : Nat) : p59 k = funcS k 2 lit59 := by kernel_rfl
def p62 (k : Nat) : CtxK → List V → TH → R := fun _ => ap 1 (fun x0 h1 =>
 kLen x0 fun x2 =>
 kBin .lss x2 (qi 2) fun x3 =>
 brS x3 (some (x0, h1)) (lp (α := Cur 61) (zN 61) (fun n66 x4 _ _ x7 _ _ _ _ _ _ _ _ _ _ _ _ _ _ _ _ _ _ _ _ _ _ _ _ _ _ _ _ _ _ _ _ _ _ _ _ _ _ _ _ _ _ _ _ _ _ _ _ _ _ _ _ _ _ _ _ _ h65 =>
 kLen x4 fun x67 =>
 kBin .lss x7 x67 fun x68 =>
 brS x68 (kIS 1 x4 x7 fun x69 =>
 kL1 x69 h65 fun x72 =>
 kBin .sub x7 (qi 1) fun x73 =>
 kIS 1 x4 x73 fun x74 =>
 kL1 x74 h65 fun x77 =>
 kEqI false x72 x77 fun x78 =>
 dokS [h65] [] (brS x78 (kP (sliceE 1 x4 (some x7) none) fun x79 =>
 lp (α := Cur 61) (zN 61) (fun n142 x80 _ _ x83 x84 x85 _ _ _ _ _ _ _ _ _ _ _ _ _ _ _ _ _ _ _ _ _ _ _ _ _ _ _ _ _ _ _ _ _ _ _ _ _ _ _ _ _ _ _ _ _ _ _ _ _ _ _ _ _ _ _ h141 =>
 kLen x84 fun x143 =>
 kBin .lss x85 x143 fun x144 =>
 brS x144 (kIS 1 x84 x85 fun x145 =>
 kL1 x145 h141 fun x148 =>
 kBin .sub x85 (qi 1) fun x149 =>
 kIS 1 x84 x149 fun x150 =>
 kL1 x150 h141 fun x153 =>
 kEqI true x148 x153 fun x154 =>
 dokS [h141] [] (jc (α := Cur 61) (fun x155 _ _ x158 x159 x160 _ _ _ _ _ _ _ _ _ _ _ _ _ _ _ _ _ _ _ _ _ _ _ _ _ _ _ _ _ _ _ _ _ _ _ _ _ _ _ _ _ _ _ _ _ _ _ _ _ _ _ _ _ _ _ h216 =>
 kBin .add x160 (qi 1) fun x218 =>
 n142 x155 u u x158 x159 x218 u u u u u u u u u u u u u u u u u u u u u u u u u u u u u u u u u u u u u u u u u u u u u u u u u u u u u u u h216) fun j217 =>
 brS x154 (kIS 1 x84 x85 fun x219 =>
 kL1 x219 h141 fun x220 =>
 kIS 1 x80 x83 fun x221 =>
 kS1 x221 x220 h141 fun _ h223 =>
 kBin .add x83 (qi 1) fun x224 =>
 j217 x80 u u x224 x84 x85 u u u u u u u u u u u u u u u u u u u u u u u u u u u u u u u u u u u u u u u u u u u u u u u u u u u u u u u h223) (j217 x80 u u x83 x84 x85 u u u u u u u u u u u u u u u u u u u u u u u u u u u u u u u u u u u u u u u u u u u u u u u u u u u u u u u h141))) (kP (sliceE 1 x80 (some x83) none) fun x225 =>
 kCl [(qi 0)] 1 x225 h141 fun _ h227 =>
 kP (sliceE 1 x80 none (some x83)) fun x228 =>
 some (x228, h227))) k x4 u u x7 x79 (qi 1) u u u u u u u u u u u u u u u u u u u u u u u u u u u u u u u u u u u u u u u u u u u u u u u u u u u u u u u h65) (kBin .add x7 (qi 1) fun x229 =>
 n66 x4 u u x229 u u u u u u u u u u u u u u u u u u u u u u u u u u u u u u u u u u u u u u u u u u u u u u u u u u u u u u u u u h65))) (some (x4, h65))) k x0 u u (qi 1) u u u u u u u u u u u u u u u u u u u u u u u u u u u u u u u u u u u u u u u u u u u u u u u u u u u u u u u u u h1))
theorem p62_ok (k : Nat) : p62 k = funcS k 1 lit62 := by kernel_rfl
def p65 (_ : Nat) : CtxK → List V → TH → R := fun X => ap 3 (fun x0 _ x2 h3 =>
 kNew (V.cellsR x2) h3 fun x4 h5 =>
 kLA 131 x4 h5 fun x6 =>
 kCall X 105 [x0, x6] h5 fun x7 h8 =>
 kNot x7 fun x9 =>
 brS x9 (some (.nils, h8)) (kFA 62 x4 fun x10 =>
 kLA 52 x10 h8 fun x11 =>
 kCall X 106 [x0, x11] h8 fun _ h13 =>
 kLA 131 x4 h13 fun x14 =>
 kCall X 107 [x0, (qb 10), x14] h13 fun x15 h16 =>
 some (x15, h16)))
theorem p65_ok (k : Nat) : p65 k = funcS k 3 lit65 := by kernel_rfl
def p71 (_ : Nat) : CtxK → List V → TH → R := fun X => ap 3 (fun x0 _ x2 h3 =>
 kNew (V.cellsR x2) h3 fun x4 h5 =>
 kNilc x0 fun x6 =>
 kFA 1 x6 fun x7 =>
 kL1 x7 h5 fun x8 =>
 kEqI true x8 (qi 4) fun x9 =>
 brS x9 (some (.nils, h5)) (kFA 123 x4 fun x10 =>
 kLA 6 x10 h5 fun x11 =>
 kCall X 9 [x11] h5 fun x12 h13 =>
 brS x12 (kFA 123 x4 fun x14 =>
 kLA 6 x14 h13 fun x15 =>
 kCall X 114 [x0, x15] h13 fun x16 h17 =>
 some (x16, h17)) (kFA 123 x4 fun x18 =>
 kLA 6 x18 h13 fun x19 =>
 kCall X 115 [x0, x19] h13 fun x20 h21 =>
 some (x20, h21))))
theorem p71_ok (k : Nat) : p71 k = funcS k 3 lit71 := by kernel_rfl
def p72 (_ : Nat) : CtxK → List V → TH → R := fun X => ap 1 (fun x0 h1 =>
 kNew (V.cellsR x0) h1 fun x2 h3 =>
 kFA 1 x2 fun x4 =>
 kL1 x4 h3 fun x7 =>
 kFA 1 x2 fun x8 =>
 kL1 x8 h3 fun x11 =>
 kCall X 116 [x7] h3 fun x12 h13 =>
 jc (α := JT) (fun x14 h15 =>
 jc (α := V → TH → PD → R) (fun x19 h20 d21 =>
 jc (α := JT) (fun x23 h24 =>
 kPick x12 x23 qf fun x26 =>
 kCall X 117 [x11] h24 fun x27 h28 =>
 jc (α := JT) (fun x29 h30 =>
 jc (α := V → TH → PD → R) (fun x34 h35 d36 =>
 jc (α := JT) (fun x38 h39 =>
 kPick x27 x38 qf fun x41 =>
 dokS [h3, h20, h24, h35, h39] d36 (kFA 0 x2 fun x42 =>
 kL1 x42 h39 fun x43 =>
 kEqI false x43 (qb 1) fun x44 =>
 jc (α := Cur 97) (fun _ x46 _ x48 x49 _ _ _ _ _ _ _ _ _ _ _ _ _ _ _ _ _ x67 x68 _ _ _ _ _ _ _ _ _ _ _ _ _ _ _ _ _ _ _ _ _ _ _ _ _ _ _ _ _ _ _ _ _ _ _ _ _ _ _ _ _ _ _ _ _ _ _ _ _ _ _ _ _ _ _ _ _ _ _ _ _ _ _ _ _ _ _ _ _ _ _ _ _ h142 =>
 brS x68 (some (x48, h142)) (kEqI false x67 (qb 5) fun x144 =>
 brS x144 (jc (α := JT) (fun x145 h146 =>
 jc (α := JT) (fun x148 h149 =>
 jc (α := JT) (fun x151 h152 =>
 jc (α := JT) (fun x154 h155 =>
 jc (α := JT) (fun x157 h158 =>
 jc (α := JT) (fun x160 h161 =>
 jc (α := JT) (fun x163 h164 =>
 jc (α := JT) (fun x166 h167 =>
 kPick x48 qt x166 fun x169 =>
 some (x169, h167)) fun j168 =>
 wtS x48 false (kPick x154 x163 qf fun x170 =>
 j168 x170 h164) (j168 u h164)) fun j165 =>
 wtS x154 true (kCall X 117 [x160] h161 fun x171 h172 =>
 j165 x171 h172) (j165 u h161)) fun j162 =>
 wtS x154 true (kL1 x157 h158 fun x173 =>
 j162 x173 h158) (j162 u h158)) fun j159 =>
 wtS x154 true (kFA 2 x46 fun x174 =>
 j159 x174 h155) (j159 u h155)) fun j156 =>
 wtS x48 false (j156 x151 h152) (j156 u h152)) fun j153 =>
 wtS x48 false (kCall X 116 [x148] h149 fun x175 h176 =>
 j153 x175 h176) (j153 u h149)) fun j150 =>
 wtS x48 false (kL1 x145 h146 fun x177 =>
 j150 x177 h146) (j150 u h146)) fun j147 =>
 wtS x48 false (kFA 1 x46 fun x178 =>
 j147 x178 h142) (j147 u h142)) (kEqI false x67 (qb 6) fun x179 =>
 brS x179 (jc (α := JT) (fun x180 h181 =>
 jc (α := JT) (fun x183 h184 =>
 jc (α := JT) (fun x186 h187 =>
 jc (α := JT) (fun x189 h190 =>
 jc (α := JT) (fun x192 h193 =>
 jc (α := JT) (fun x195 h196 =>
 jc (α := JT) (fun x198 h199 =>
 jc (α := JT) (fun x201 h202 =>
 kPick x48 qt x201 fun x204 =>
 some (x204, h202)) fun j203 =>
 wtS x48 false (kPick x189 x198 qf fun x205 =>
 j203 x205 h199) (j203 u h199)) fun j200 =>
 wtS x189 true (kCall X 116 [x195] h196 fun x206 h207 =>
 j200 x206 h207) (j200 u h196)) fun j197 =>
 wtS x189 true (kL1 x192 h193 fun x208 =>
 j197 x208 h193) (j197 u h193)) fun j194 =>
 wtS x189 true (kFA 2 x46 fun x209 =>
 j194 x209 h190) (j194 u h190)) fun j191 =>
 wtS x48 false (j191 x186 h187) (j191 u h187)) fun j188 =>
 wtS x48 false (kCall X 117 [x183] h184 fun x210 h211 =>
 j188 x210 h211) (j188 u h184)) fun j185 =>
 wtS x48 false (kL1 x180 h181 fun x212 =>
 j185 x212 h181) (j185 u h181)) fun j182 =>
 wtS x48 false (kFA 1 x46 fun x213 =>
 j182 x213 h142) (j182 u h142)) (kEqI false x67 (qb 17) fun x214 =>
 brS x214 (kFA 1 x46 fun x215 =>
 kL1 x215 h142 fun x216 =>
 kCall X 117 [x216] h142 fun x217 h218 =>
 jc (α := JT) (fun x219 h220 =>
 jc (α := JT) (fun x222 h223 =>
 jc (α := JT) (fun x225 h226 =>
 kPick x217 x225 qf fun x228 =>
 some (x228, h226)) fun j227 =>
 wtS x217 true (kCall X 116 [x222] h223 fun x229 h230 =>
 j227 x229 h230) (j227 u h223)) fun j224 =>
 wtS x217 true (kL1 x219 h220 fun x231 =>
 j224 x231 h220) (j224 u h220)) fun j221 =>
 wtS x217 true (kFA 2 x46 fun x232 =>
 j221 x232 h218) (j221 u h218)) (kEqI false x67 (qb 15) fun x233 =>
 brS x233 (kFA 1 x46 fun x234 =>
 kL1 x234 h142 fun x235 =>
 kCall X 118 [x235] h142 fun x236 h237 =>
 jc (α := JT) (fun x238 h239 =>
 jc (α := JT) (fun x241 h242 =>
 jc (α := JT) (fun x244 h245 =>
 kPick x236 x244 qf fun x247 =>
 some (x247, h245)) fun j246 =>
 wtS x236 true (kCall X 117 [x241] h242 fun x248 h249 =>
 j246 x248 h249) (j246 u h242)) fun j243 =>
 wtS x236 true (kL1 x238 h239 fun x250 =>
 j243 x250 h239) (j243 u h239)) fun j240 =>
 wtS x236 true (kFA 2 x46 fun x251 =>
 j240 x251 h237) (j240 u h237)) (kEqI false x67 (qb 16) fun x252 =>
 brS x252 (kFA 1 x46 fun x253 =>
 kL1 x253 h142 fun x254 =>
 kCall X 117 [x254] h142 fun x255 h256 =>
 jc (α := JT) (fun x257 h258 =>
 jc (α := JT) (fun x260 h261 =>
 jc (α := JT) (fun x263 h264 =>
 kPick x255 x263 qf fun x266 =>
 some (x266, h264)) fun j265 =>
 wtS x255 true (kCall X 118 [x260] h261 fun x267 h268 =>
 j265 x267 h268) (j265 u h261)) fun j262 =>
 wtS x255 true (kL1 x257 h258 fun x269 =>
 j262 x269 h258) (j262 u h258)) fun j259 =>
 wtS x255 true (kFA 2 x46 fun x270 =>
 j259 x270 h256) (j259 u h256)) (kFA 0 x46 fun x271 =>
 kL1 x271 h142 fun x272 =>
 kBin .geq x272 (qb 7) fun x273 =>
 jc (α := JT) (fun x274 h275 =>
 jc (α := JT) (fun x277 h278 =>
 jc (α := JT) (fun x280 h281 =>
 kPick x273 x280 qf fun x283 =>
 jc (α := JT) (fun x284 h285 =>
 kPick x283 x284 qf fun x287 =>
 some (x287, h285)) fun j286 =>
 wtS x283 true (j286 x49 h281) (j286 u h281)) fun j282 =>
 wtS x273 true (kBin .leq x277 (qb 14) fun x288 =>
 j282 x288 h278) (j282 u h278)) fun j279 =>
 wtS x273 true (kL1 x274 h275 fun x289 =>
 j279 x289 h275) (j279 u h275)) fun j276 =>
 wtS x273 true (kFA 0 x46 fun x290 =>
 j276 x290 h142) (j276 u h142)))))))) fun j143 =>
 brS x44 (j143 u x2 u x26 x41 u u u u u u u u u u u u u u u u u x43 x44 u u u u u u u u u u u u u u u u u u u u u u u u u u u u u u u u u u u u u u u u u u u u u u u u u u u u u u u u u u u u u u u u u u u u u u u u u h39) (kEqI false x43 (qb 2) fun x291 =>
 jc (α := Cur 97) (fun _ x293 _ x295 x296 _ _ _ _ _ _ _ _ _ _ _ _ _ _ _ _ _ x314 x315 _ _ _ _ _ _ _ _ _ _ _ _ _ _ _ _ _ _ _ _ _ _ _ _ _ _ _ _ _ _ _ _ _ _ _ _ _ _ _ _ _ _ _ _ _ _ _ _ _ _ _ _ _ _ _ _ _ _ _ _ _ _ _ _ _ _ _ _ _ _ _ _ _ h389 =>
 j143 u x293 u x295 x296 u u u u u u u u u u u u u u u u u x314 x315 u u u u u u u u u u u u u u u u u u u u u u u u u u u u u u u u u u u u u u u u u u u u u u u u u u u u u u u u u u u u u u u u u u u u u u u u u h389) fun j390 =>
 brS x291 (j390 u x2 u x26 x41 u u u u u u u u u u u u u u u u u x43 x291 u u u u u u u u u u u u u u u u u u u u u u u u u u u u u u u u u u u u u u u u u u u u u u u u u u u u u u u u u u u u u u u u u u u u u u u u u h39) (kEqI false x43 (qb 3) fun x391 =>
 jc (α := Cur 97) (fun _ x393 _ x395 x396 _ _ _ _ _ _ _ _ _ _ _ _ _ _ _ _ _ x414 x415 _ _ _ _ _ _ _ _ _ _ _ _ _ _ _ _ _ _ _ _ _ _ _ _ _ _ _ _ _ _ _ _ _ _ _ _ _ _ _ _ _ _ _ _ _ _ _ _ _ _ _ _ _ _ _ _ _ _ _ _ _ _ _ _ _ _ _ _ _ _ _ _ _ h489 =>
 j390 u x393 u x395 x396 u u u u u u u u u u u u u u u u u x414 x415 u u u u u u u u u u u u u u u u u u u u u u u u u u u u u u u u u u u u u u u u u u u u u u u u u u u u u u u u u u u u u u u u u u u u u u u u u h489) fun j490 =>
 brS x391 (j490 u x2 u x26 x41 u u u u u u u u u u u u u u u u u x43 x391 u u u u u u u u u u u u u u u u u u u u u u u u u u u u u u u u u u u u u u u u u u u u u u u u u u u u u u u u u u u u u u u u u u u u u u u u u h39) (kEqI false x43 (qb 4) fun x491 =>
 jc (α := Cur 97) (fun _ x493 _ x495 x496 _ _ _ _ _ _ _ _ _ _ _ _ _ _ _ _ _ x514 x515 _ _ _ _ _ _ _ _ _ _ _ _ _ _ _ _ _ _ _ _ _ _ _ _ _ _ _ _ _ _ _ _ _ _ _ _ _ _ _ _ _ _ _ _ _ _ _ _ _ _ _ _ _ _ _ _ _ _ _ _ _ _ _ _ _ _ _ _ _ _ _ _ _ h589 =>
 j490 u x493 u x495 x496 u u u u u u u u u u u u u u u u u x514 x515 u u u u u u u u u u u u u u u u u u u u u u u u u u u u u u u u u u u u u u u u u u u u u u u u u u u u u u u u u u u u u u u u u u u u u u u u u h589) fun j590 =>
 brS x491 (j590 u x2 u x26 x41 u u u u u u u u u u u u u u u u u x43 x491 u u u u u u u u u u u u u u u u u u u u u u u u u u u u u u u u u u u u u u u u u u u u u u u u u u u u u u u u u u u u u u u u u u u u u u u u u h39) (kEqI false x43 (qb 18) fun x591 =>
 j590 u x2 u x26 x41 u u u u u u u u u u u u u u u u u x43 x591 u u u u u u u u u u u u u u u u u u u u u u u u u u u u u u u u u u u u u u u u u u u u u u u u u u u u u u u u u u u u u u u u u u u u u u u u u h39)))))) fun j40 =>
 wtS x27 true (kCall X 117 [x34] h35 fun x592 h593 =>
 j40 x592 h593) (j40 u h35)) fun j37 =>
 wtS x27 true (kL1 x29 h30 fun x594 =>
 j37 x594 h30 d21) (j37 u h30 d21)) fun j31 =>
 wtS x27 true (kFA 2 x2 fun x595 =>
 j31 x595 h28) (j31 u h28)) fun j25 =>
 wtS x12 true (kCall X 116 [x19] h20 fun x596 h597 =>
 j25 x596 h597) (j25 u h20)) fun j22 =>
 wtS x12 true (kL1 x14 h15 fun x598 =>
 j22 x598 h15 ((fun h9 => kL1 x8 h9 fun x10 =>
 some (x10, h9), x11, 0, 2) :: [])) (j22 u h15 ((fun h9 => kL1 x8 h9 fun x10 =>
 some (x10, h9), x11, 0, 2) :: []))) fun j16 =>
 wtS x12 true (kFA 2 x2 fun x599 =>
 j16 x599 h13) (j16 u h13))
theorem p72_ok (k : Nat) : p72 k = funcS k 1 lit72 := by kernel_rfl
def p73 (_ : Nat) : CtxK → List V → TH → R := fun X => ap 1 (fun x0 h1 =>
 kNew zr3 h1 fun x2 h3 =>
 kEqI false x0 (qb 1) fun x4 =>
 jc (α := Cur 32) (fun x5 x6 x7 x8 x9 x10 x11 x12 x13 x14 x15 x16 x17 x18 x19 x20 x21 x22 x23 x24 x25 x26 x27 x28 x29 x30 x31 x32 x33 x34 x35 x36 h37 =>
 brS x9 (kB zr3 [(0, 1, qt), (1, 1, qt)] fun x39 =>
 kSA 11 x7 x39 h37 fun _ h41 =>
 rsS [.cell 2 true 11] [x5, x6, x7, x8, x9, x10, x11, x12, x39, x14, x15, x16, x17, x18, x19, x20, x21, x22, x23, x24, x25, x26, x27, x28, x29, x30, x31, x32, x33, x34, x35, x36] h41) (kEqI false x8 (qb 2) fun x42 =>
 brS x42 (kB zr3 [(0, 1, qt), (1, 1, qt), (2, 1, qt), (3, 1, qt)] fun x43 =>
 kSA 11 x7 x43 h37 fun _ h45 =>
 rsS [.cell 2 true 11] [x5, x6, x7, x8, x9, x10, x11, x12, x13, x42, x42, x43, x17, x18, x19, x20, x21, x22, x23, x24, x25, x26, x27, x28, x29, x30, x31, x32, x33, x34, x35, x36] h45) (kEqI false x8 (qb 3) fun x46 =>
 brS x46 (kB zr3 [(0, 1, qt), (1, 1, qt), (3, 1, qt)] fun x47 =>
 kSA 11 x7 x47 h37 fun _ h49 =>
 rsS [.cell 2 true 11] [x5, x6, x7, x8, x9, x10, x11, x12, x13, x42, x42, x16, x46, x46, x47, x20, x21, x22, x23, x24, x25, x26, x27, x28, x29, x30, x31, x32, x33, x34, x35, x36] h49) (kEqI false x8 (qb 5) fun x50 =>
 brS x50 (kB zr3 [(0, 1, qt), (3, 1, qt)] fun x51 =>
 kSA 11 x7 x51 h37 fun _ h53 =>
 rsS [.cell 2 true 11] [x5, x6, x7, x8, x9, x10, x11, x12, x13, x42, x42, x16, x46, x46, x19, x50, x50, x51, x23, x24, x25, x26, x27, x28, x29, x30, x31, x32, x33, x34, x35, x36] h53) (kEqI false x8 (qb 6) fun x54 =>
 brS x54 (kB zr3 [(0, 1, qt)] fun x55 =>
 kSA 11 x7 x55 h37 fun _ h57 =>
 rsS [.cell 2 true 11] [x5, x6, x7, x8, x9, x10, x11, x12, x13, x42, x42, x16, x46, x46, x19, x50, x50, x22, x54, x54, x55, x26, x27, x28, x29, x30, x31, x32, x33, x34, x35, x36] h57) (kEqI false x8 (qb 17) fun x58 =>
 brS x58 (kB zr3 [(8, 1, qt)] fun x59 =>
 kSA 11 x7 x59 h37 fun _ h61 =>
 rsS [.cell 2 true 11] [x5, x6, x7, x8, x9, x10, x11, x12, x13, x42, x42, x16, x46, x46, x19, x50, x50, x22, x54, x54, x25, x58, x58, x59, x29, x30, x31, x32, x33, x34, x35, x36] h61) (kEqI false x8 (qb 15) fun x62 =>
 brS x62 (kB zr3 [(9, 1, qt)] fun x63 =>
 kSA 11 x7 x63 h37 fun _ h65 =>
 rsS [.cell 2 true 11] [x5, x6, x7, x8, x9, x10, x11, x12, x13, x42, x42, x16, x46, x46, x19, x50, x50, x22, x54, x54, x25, x58, x58, x28, x62, x62, x63, x32, x33, x34, x35, x36] h65) (kEqI false x8 (qb 16) fun x66 =>
 brS x66 (kB zr3 [(9, 1, qt), (10, 1, qt)] fun x67 =>
 kSA 11 x7 x67 h37 fun _ h69 =>
 rsS [.cell 2 true 11] [x5, x6, x7, x8, x9, x10, x11, x12, x13, x42, x42, x16, x46, x46, x19, x50, x50, x22, x54, x54, x25, x58, x58, x28, x62, x62, x31, x66, x66, x67, x35, x36] h69) (kCall X 119 [x5] h37 fun x70 h71 =>
 kSA 11 x7 x70 h71 fun _ h73 =>
 rsS [.cell 2 true 11] [x5, x6, x7, x8, x9, x10, x11, x12, x13, x42, x42, x16, x46, x46, x19, x50, x50, x22, x54, x54, x25, x58, x58, x28, x62, x62, x31, x66, x66, x34, x5, x70] h73))))))))) fun j38 =>
 brS x4 (j38 x0 u x2 x0 x4 u u u u u u u u u u u u u u u u u u u u u u u u u u u h3) (kEqI false x0 (qb 4) fun x74 =>
 jc (α := Cur 32) (fun x75 _ x77 x78 x79 _ _ _ _ _ _ _ _ _ _ _ _ _ _ _ _ _ _ _ _ _ _ _ _ _ _ _ h107 =>
 j38 x75 u x77 x78 x79 u u u u u u u u u u u u u u u u u u u u u u u u u u u h107) fun j108 =>
 brS x74 (j108 x0 u x2 x0 x74 u u u u u u u u u u u u u u u u u u u u u u u u u u u h3) (kEqI false x0 (qb 18) fun x109 =>
 j108 x0 u x2 x0 x109 u u u u u u u u u u u u u u u u u u u u u u u u u u u h3)))
theorem p73_ok (k : Nat) : p73 k = funcS k 1 lit73 := by kernel_rfl
def p81 (_ : Nat) : CtxK → List V → TH → R := fun X => ap 1 (fun x0 h1 =>
 kNew (V.cellsR x0) h1 fun x2 h3 =>
 kFA 0 x2 fun x4 =>
 kL1 x4 h3 fun x5 =>
 kEqI false x5 (qb 15) fun x6 =>
 brS x6 (kFA 123 x2 fun x7 =>
 kLA 6 x7 h3 fun x8 =>
 kCall X 33 [x8] h3 fun x9 h10 =>
 jc (α := JT) (fun x11 h12 =>
 jc (α := JT) (fun x14 h15 =>
 jc (α := JT) (fun x17 h18 =>
 jc (α := JT) (fun x20 h21 =>
 jc (α := JT) (fun x23 h24 =>
 jc (α := JT) (fun x26 h27 =>
 jc (α := JT) (fun x29 h30 =>
 kPick x9 x29 qf fun x32 =>
 some (x32, h30)) fun j31 =>
 wtS x9 true (kEqI false x14 x26 fun x33 =>
 j31 x33 h27) (j31 u h27)) fun j28 =>
 wtS x9 true (kBin .add (qb 20) x23 fun x34 =>
 j28 x34 h24) (j28 u h24)) fun j25 =>
 wtS x9 true (kL1 x20 h21 fun x35 =>
 j25 x35 h21) (j25 u h21)) fun j22 =>
 wtS x9 true (kFA 0 x17 fun x36 =>
 j22 x36 h18) (j22 u h18)) fun j19 =>
 wtS x9 true (kFA 123 x2 fun x37 =>
 j19 x37 h15) (j19 u h15)) fun j16 =>
 wtS x9 true (kL1 x11 h12 fun x38 =>
 j16 x38 h12) (j16 u h12)) fun j13 =>
 wtS x9 true (kFA 1 x2 fun x39 =>
 j13 x39 h10) (j13 u h10)) (kEqI false x5 (qb 16) fun x40 =>
 brS x40 (kFA 123 x2 fun x41 =>
 kLA 6 x41 h3 fun x42 =>
 kCall X 33 [x42] h3 fun x43 h44 =>
 jc (α := JT) (fun x45 h46 =>
 jc (α := JT) (fun x48 h49 =>
 jc (α := JT) (fun x51 h52 =>
 jc (α := JT) (fun x54 h55 =>
 jc (α := JT) (fun x57 h58 =>
 jc (α := JT) (fun x60 h61 =>
 jc (α := JT) (fun x63 h64 =>
 kPick x43 x63 qf fun x66 =>
 some (x66, h64)) fun j65 =>
 wtS x43 true (kEqI false x48 x60 fun x67 =>
 j65 x67 h61) (j65 u h61)) fun j62 =>
 wtS x43 true (kBin .add (qb 20) x57 fun x68 =>
 j62 x68 h58) (j62 u h58)) fun j59 =>
 wtS x43 true (kL1 x54 h55 fun x69 =>
 j59 x69 h55) (j59 u h55)) fun j56 =>
 wtS x43 true (kFA 0 x51 fun x70 =>
 j56 x70 h52) (j56 u h52)) fun j53 =>
 wtS x43 true (kFA 123 x2 fun x71 =>
 j53 x71 h49) (j53 u h49)) fun j50 =>
 wtS x43 true (kL1 x45 h46 fun x72 =>
 j50 x72 h46) (j50 u h46)) fun j47 =>
 wtS x43 true (kFA 2 x2 fun x73 =>
 j47 x73 h44) (j47 u h44)) (kFA 123 x2 fun x74 =>
 kLA 6 x74 h3 fun x75 =>
 kCall X 33 [x75] h3 fun x76 h77 =>
 jc (α := JT) (fun x78 h79 =>
 jc (α := JT) (fun x81 h82 =>
 jc (α := JT) (fun x84 h85 =>
 jc (α := JT) (fun x87 h88 =>
 kPick x76 x87 qf fun x90 =>
 some (x90, h88)) fun j89 =>
 wtS x76 true (kEqI false x84 (qb 5) fun x91 =>
 j89 x91 h85) (j89 u h85)) fun j86 =>
 wtS x76 true (kL1 x81 h82 fun x92 =>
 j86 x92 h82) (j86 u h82)) fun j83 =>
 wtS x76 true (kFA 2 x78 fun x93 =>
 j83 x93 h79) (j83 u h79)) fun j80 =>
 wtS x76 true (kFA 123 x2 fun x94 =>
 j80 x94 h77) (j80 u h77))))
theorem p81_ok (k : Nat) : p81 k = funcS k 1 lit81 := by kernel_rfl
def p86 (_ : Nat) : CtxK → List V → TH → R := fun _ => ap 2 (fun x0 x1 h2 =>
 kIA 5 1 x1 x0 fun x3 =>
 kL1 x3 h2 fun x4 =>
 some (x4, h2))
theorem p86_ok (k : Nat) : p86 k = funcS k 2 lit86 := by kernel_rfl
def p87 (_ : Nat) : CtxK → List V → TH → R := fun _ => ap 2 (fun x0 x1 h2 =>
 kNew zr4 h2 fun x3 h4 =>
 kNilc x0 fun x5 =>
 kFA 0 x5 fun x6 =>
 kL1 x6 h4 fun x7 =>
 kP (lookupG h4.get (.agg zr4) true x7 x1) fun x8 =>
 kExt x8 0 fun x9 =>
 kExt x8 1 fun x10 =>
 kNew zr4 h4 fun x11 h12 =>
 kSA 16 x11 x9 h12 fun _ h14 =>
 kLA 16 x11 h14 fun x15 =>
 kSA 16 x3 x15 h14 fun _ h17 =>
 rsS [.cell 4 true 16, .tmp 5] [x0, x1, u, u, x3, x10, x11, x10, x8, x0, x5, x6, x7, x1, x8, x9, x10, x15, x10] h17)
theorem p87_ok (k : Nat) : p87 k = funcS k 2 lit87 := by kernel_rfl
def p92 (_ : Nat) : CtxK → List V → TH → R := fun X => ap 2 (fun x0 x1 h2 =>
 kNew (V.cellsR x0) h2 fun x3 h4 =>
 kNew (V.cellsR x1) h4 fun x5 h6 =>
 kFA 2 x5 fun x7 =>
 kLA 6 x7 h6 fun x8 =>
 kCall X 9 [x8] h6 fun x9 h10 =>
 jc (α := JT) (fun x11 h12 =>
 jc (α := JT) (fun x14 h15 =>
 jc (α := JT) (fun x17 h18 =>
 jc (α := JT) (fun x20 h21 =>
 jc (α := JT) (fun x23 h24 =>
 jc (α := JT) (fun x26 h27 =>
 kPick x9 x26 qf fun x29 =>
 jc (α := JT) (fun x30 h31 =>
 jc (α := JT) (fun x33 h34 =>
 jc (α := JT) (fun x36 h37 =>
 jc (α := JT) (fun x39 h40 =>
 jc (α := JT) (fun x42 h43 =>
 kPick x29 x42 qf fun x45 =>
 jc (α := JT) (fun x46 h47 =>
 jc (α := JT) (fun x49 h50 =>
 jc (α := JT) (fun x52 h53 =>
 jc (α := JT) (fun x55 h56 =>
 jc (α := JT) (fun x58 h59 =>
 kPick x45 x58 qf fun x61 =>
 jc (α := JT) (fun x62 h63 =>
 jc (α := JT) (fun x65 h66 =>
 jc (α := JT) (fun x68 h69 =>
 kPick x61 x68 qf fun x71 =>
 some (x71, h69)) fun j70 =>
 wtS x61 true (kBin .leq x65 (qw 60) fun x72 =>
 j70 x72 h66) (j70 u h66)) fun j67 =>
 wtS x61 true (kL1 x62 h63 fun x73 =>
 j67 x73 h63) (j67 u h63)) fun j64 =>
 wtS x61 true (kFA 0 x5 fun x74 =>
 j64 x74 h59) (j64 u h59)) fun j60 =>
 wtS x45 true (kBin .geq x49 x55 fun x75 =>
 j60 x75 h56) (j60 u h56)) fun j57 =>
 wtS x45 true (kL1 x52 h53 fun x76 =>
 j57 x76 h53) (j57 u h53)) fun j54 =>
 wtS x45 true (kFA 0 x3 fun x77 =>
 j54 x77 h50) (j54 u h50)) fun j51 =>
 wtS x45 true (kL1 x46 h47 fun x78 =>
 j51 x78 h47) (j51 u h47)) fun j48 =>
 wtS x45 true (kFA 0 x5 fun x79 =>
 j48 x79 h43) (j48 u h43)) fun j44 =>
 wtS x29 true (kBin .gtr x33 x39 fun x80 =>
 j44 x80 h40) (j44 u h40)) fun j41 =>
 wtS x29 true (kL1 x36 h37 fun x81 =>
 j41 x81 h37) (j41 u h37)) fun j38 =>
 wtS x29 true (kFA 1 x3 fun x82 =>
 j38 x82 h34) (j38 u h34)) fun j35 =>
 wtS x29 true (kL1 x30 h31 fun x83 =>
 j35 x83 h31) (j35 u h31)) fun j32 =>
 wtS x29 true (kFA 1 x5 fun x84 =>
 j32 x84 h27) (j32 u h27)) fun j28 =>
 wtS x9 true (kEqI false x14 x23 fun x85 =>
 j28 x85 h24) (j28 u h24)) fun j25 =>
 wtS x9 true (kBin .add x20 (qw 1) fun x86 =>
 j25 x86 h21) (j25 u h21)) fun j22 =>
 wtS x9 true (kL1 x17 h18 fun x87 =>
 j22 x87 h18) (j22 u h18)) fun j19 =>
 wtS x9 true (kFA 1 x3 fun x88 =>
 j19 x88 h15) (j19 u h15)) fun j16 =>
 wtS x9 true (kL1 x11 h12 fun x89 =>
 j16 x89 h12) (j16 u h12)) fun j13 =>
 wtS x9 true (kFA 1 x5 fun x90 =>
 j13 x90 h10) (j13 u h10))
theorem p92_ok (k : Nat) : p92 k = funcS k 2 lit92 := by kernel_rfl
def p100 (_ : Nat) : CtxK → List V → TH → R := fun X => ap 2 (fun x0 x1 h2 =>
 kNew (V.cellsR x0) h2 fun x3 h4 =>
 kLA 16 x3 h4 fun x5 =>
 kCall X 142 [x5, x1] h4 fun x6 h7 =>
 kCall X 85 [x6, (.fn 143 [] [x3])] h7 fun x8 h9 =>
 some (x8, h9))
theorem p100_ok (k : Nat) : p100 k = funcS k 2 lit100 := by kernel_rfl
def p107 (_ : Nat) : CtxK → List V → TH → R := fun X => ap 3 (fun x0 x1 x2 h3 =>
 kNew (V.cellsR x2) h3 fun x4 h5 =>
 kNilc x0 fun x6 =>
 kFA 3 x6 fun x7 =>
 kFA 0 x7 fun x8 =>
 kL1 x8 h5 fun x11 =>
 kNilc x0 fun x12 =>
 kFA 52 x12 fun x13 =>
 kL1 x13 h5 fun x16 =>
 kEqI true x11 x16 fun x17 =>
 dokS [h5] [] (brS x17 (some (.nils, h5)) (kLA 131 x4 h5 fun x18 =>
 kCall X 104 [x18] h5 fun x19 h20 =>
 kCall X 89 [x0, x1, x19] h20 fun x21 h22 =>
 kNew zr1 h22 fun x23 h24 =>
 kSA 131 x23 x21 h24 fun _ h26 =>
 kCall X 109 [x0] h26 fun x27 h28 =>
 kFA 122 x23 fun x29 =>
 kS1 x29 x27 h28 fun _ h31 =>
 kLA 131 x23 h31 fun x32 =>
 kBS 131 zr1 1 [(0, 131, x32)] h31 fun x33 h34 =>
 some (x33, h34))))
theorem p107_ok (k : Nat) : p107 k = funcS k 3 lit107 := by kernel_rfl
def p113 (k : Nat) : CtxK → List V → TH → R := fun X => ap 1 (fun x0 h1 =>
 kNilc x0 fun x2 =>
 kFA 310 x2 fun x3 =>
 kLA 42 x3 h1 fun x4 =>
 lp (α := Cur 66) (zN 66) (fun n72 x5 _ _ x8 _ _ _ _ _ x14 x15 _ _ _ _ _ _ _ _ _ _ _ _ _ _ _ _ _ _ _ _ _ _ _ _ _ _ _ _ _ _ _ _ _ _ _ _ _ _ _ _ _ _ _ _ _ _ _ _ _ _ _ _ _ _ _ h71 =>
 kBin .lss x15 (qi 3) fun x73 =>
 brS x73 (jc (α := Cur 66) (fun x74 _ _ x77 _ _ _ _ _ x83 x84 _ _ _ _ _ _ _ _ _ _ _ _ _ _ _ _ _ _ _ _ _ _ _ _ _ _ _ _ _ _ _ _ _ _ _ _ _ _ _ _ _ _ _ _ _ _ _ _ _ _ _ _ _ _ _ h140 =>
 kBin .add x84 (qi 1) fun x142 =>
 n72 x74 u u x77 u u u u u x83 x142 u u u u u u u u u u u u u u u u u u u u u u u u u u u u u u u u u u u u u u u u u u u u u u u u u u u u u u u h140) fun j141 =>
 kP (indexE (some (3, 14, true)) x14 x15) fun x143 =>
 kNew [(qb 0), (qw 0), (qb 0), (qb 0), (qb 0), qs, (qb 0), qs, (qw 0), qf, qf, qf, qf, qf] h71 fun x144 h145 =>
 kSA 14 x144 x143 h145 fun _ h147 =>
 kFA 0 x144 fun x148 =>
 kFA 1 x148 fun x149 =>
 kL1 x149 h147 fun x152 =>
 kEqI false x152 (qw 0) fun x153 =>
 jc (α := JT) (fun x154 h155 =>
 jc (α := V → TH → PD → R) (fun x159 h160 d161 =>
 jc (α := JT) (fun x163 h164 =>
 jc (α := JT) (fun x166 h167 =>
 jc (α := JT) (fun x169 h170 =>
 jc (α := V → TH → PD → R) (fun x174 h175 d176 =>
 jc (α := JT) (fun x178 h179 =>
 jc (α := JT) (fun x181 h182 =>
 kPick x153 qt x181 fun x184 =>
 jc (α := JT) (fun x185 h186 =>
 jc (α := JT) (fun x188 h189 =>
 jc (α := JT) (fun x191 h192 =>
 jc (α := V → TH → PD → R) (fun x196 h197 d198 =>
 jc (α := JT) (fun x200 h201 =>
 jc (α := JT) (fun x203 h204 =>
 jc (α := JT) (fun x206 h207 =>
 jc (α := JT) (fun x209 h210 =>
 jc (α := JT) (fun x212 h213 =>
 jc (α := JT) (fun x215 h216 =>
 jc (α := V → TH → PD → R) (fun x220 h221 d222 =>
 jc (α := JT) (fun x224 h225 =>
 jc (α := JT) (fun x227 h228 =>
 jc (α := JT) (fun x230 h231 =>
 jc (α := V → TH → PD → R) (fun x235 h236 d237 =>
 jc (α := JT) (fun x239 h240 =>
 jc (α := V → TH → PD → R) (fun x244 h245 d246 =>
 jc (α := JT) (fun x248 h249 =>
 jc (α := JT) (fun x251 h252 =>
 kPick x184 qt x251 fun x254 =>
 dokS [h175, h252] d246 (brS x254 (j141 x5 u u x8 u u u u u x14 x15 u u u u u u u u u u u u u u u u u u u u u u u u u u u u u u u u u u u u u u u u u u u u u u u u u u u u u u u h252) (kFA 0 x144 fun x255 =>
 kLA 6 x255 h252 fun x256 =>
 kFA 6 x144 fun x257 =>
 kLA 2 x257 h252 fun x258 =>
 kCall X 112 [x5, x256, x258] h252 fun x259 h260 =>
 kBS 131 zr1 1 [(0, 131, x259)] h260 fun x261 h262 =>
 kAp 131 1400 x8 x261 h262 fun x263 h264 =>
 kB [(qb 0), (qw 0), (qb 0), (qb 0), (qb 0), qs, (qb 0), qs, (qw 0), qf, qf, qf, qf, qf] [] fun x265 =>
 kNilc x5 fun x266 =>
 kFA 310 x266 fun x267 =>
 kIA 3 14 x267 x15 fun x268 =>
 kSA 14 x268 x265 h264 fun _ h270 =>
 j141 x5 u u x263 u u u u u x14 x15 u u u u u u u u u u u u u u u u u u u u u u u u u u u u u u u u u u u u u u u u u u u u u u u u u u u u u u u h270))) fun j253 =>
 wtS x184 false (kPick x206 x248 qf fun x271 =>
 j253 x271 h249) (j253 u h249)) fun j250 =>
 wtS x206 true (kBin .leq x235 x244 fun x272 =>
 j250 x272 h245) (j250 u h245)) fun j247 =>
 wtS x206 true (kL1 x239 h240 fun x273 =>
 j247 x273 h240 d237) (j247 u h240 d237)) fun j241 =>
 wtS x206 true (kFA 8 x144 fun x274 =>
 j241 x274 h236) (j241 u h236)) fun j238 =>
 wtS x206 true (kL1 x230 h231 fun x275 =>
 j238 x275 h231 d222) (j238 u h231 d222)) fun j232 =>
 wtS x206 true (kFA 1 x227 fun x276 =>
 j232 x276 h228) (j232 u h228)) fun j229 =>
 wtS x206 true (kFA 0 x224 fun x277 =>
 j229 x277 h225) (j229 u h225)) fun j226 =>
 wtS x206 true (kIS 15 x220 (qi 0) fun x278 =>
 j226 x278 h221) (j226 u h221)) fun j223 =>
 wtS x206 true (kL1 x215 h216 fun x279 =>
 j223 x279 h216 d198) (j223 u h216 d198)) fun j217 =>
 wtS x206 true (kFA 309 x212 fun x280 =>
 j217 x280 h213) (j217 u h213)) fun j214 =>
 wtS x206 true (kNilc x209 fun x281 =>
 j214 x281 h210) (j214 u h210)) fun j211 =>
 wtS x206 true (j211 x5 h207) (j211 u h207)) fun j208 =>
 wtS x184 false (j208 x203 h204) (j208 u h204)) fun j205 =>
 wtS x184 false (kBin .gtr x200 (qi 0) fun x282 =>
 j205 x282 h201) (j205 u h201)) fun j202 =>
 wtS x184 false (kLen x196 fun x283 =>
 j202 x283 h197) (j202 u h197)) fun j199 =>
 wtS x184 false (kL1 x191 h192 fun x284 =>
 j199 x284 h192 d176) (j199 u h192 d176)) fun j193 =>
 wtS x184 false (kFA 309 x188 fun x285 =>
 j193 x285 h189) (j193 u h189)) fun j190 =>
 wtS x184 false (kNilc x185 fun x286 =>
 j190 x286 h186) (j190 u h186)) fun j187 =>
 wtS x184 false (j187 x5 h182) (j187 u h182)) fun j183 =>
 wtS x153 false (kNot x178 fun x287 =>
 j183 x287 h179) (j183 u h179)) fun j180 =>
 wtS x153 false (kCall X 110 [x159, x174] h175 fun x288 h289 =>
 j180 x288 h289) (j180 u h175)) fun j177 =>
 wtS x153 false (kL1 x169 h170 fun x290 =>
 j177 x290 h170 d161) (j177 u h170 d161)) fun j171 =>
 wtS x153 false (kFA 53 x166 fun x291 =>
 j171 x291 h167) (j171 u h167)) fun j168 =>
 wtS x153 false (kNilc x163 fun x292 =>
 j168 x292 h164) (j168 u h164)) fun j165 =>
 wtS x153 false (j165 x5 h160) (j165 u h160)) fun j162 =>
 wtS x153 false (kLA 5 x154 h155 fun x293 =>
 j162 x293 h155 []) (j162 u h155 [])) fun j156 =>
 wtS x153 false (kFA 9 x144 fun x294 =>
 j156 x294 h147) (j156 u h147)) (some (x8, h71))) k x0 u u .nils u u u u u x4 (qi 0) u u u u u u u u u u u u u u u u u u u u u u u u u u u u u u u u u u u u u u u u u u u u u u u u u u u u u u u h1)
theorem p113_ok (k : Nat) : p113 k = funcS k 1 lit113 := by kernel_rfl
def p120 (_ : Nat) : CtxK → List V → TH → R := fun X => ap 2 (fun x0 x1 h2 =>
 kCall X 163 [x0, x1] h2 fun x3 h4 =>
 kBin .geq x3 (qi 0) fun x5 =>
 some (x5, h4))
theorem p120_ok (k : Nat) : p120 k = funcS k 2 lit120 := by kernel_rfl
def p123 (_ : Nat) : CtxK → List V → TH → R := fun X => ap 1 (fun x0 h1 =>
 kNew (V.cellsR x0) h1 fun x2 h3 =>
 kLA 49 x2 h3 fun x4 =>
 kCall X 50 [x4] h3 fun x5 h6 =>
 jc (α := JT) (fun x7 h8 =>
 jc (α := JT) (fun x10 h11 =>
 jc (α := JT) (fun x13 h14 =>
 jc (α := JT) (fun x16 h17 =>
 jc (α := JT) (fun x19 h20 =>
 jc (α := JT) (fun x22 h23 =>
 jc (α := JT) (fun x25 h26 =>
 kPick x5 x25 qf fun x28 =>
 some (x28, h26)) fun j27 =>
 wtS x5 true (kCall X 15 [x7, x22] h23 fun x29 h30 =>
 j27 x29 h30) (j27 u h23)) fun j24 =>
 wtS x5 true (kB zr0 [(0, 1, x13), (40, 8, x19)] fun x31 =>
 j24 x31 h20) (j24 u h20)) fun j21 =>
 wtS x5 true (kLA 8 x16 h17 fun x32 =>
 j21 x32 h17) (j21 u h17)) fun j18 =>
 wtS x5 true (kFA 40 x2 fun x33 =>
 j18 x33 h14) (j18 u h14)) fun j15 =>
 wtS x5 true (kL1 x10 h11 fun x34 =>
 j15 x34 h11) (j15 u h11)) fun j12 =>
 wtS x5 true (kFA 0 x2 fun x35 =>
 j12 x35 h8) (j12 u h8)) fun j9 =>
 wtS x5 true (kLA 49 x2 h6 fun x36 =>
 j9 x36 h6) (j9 u h6))
theorem p123_ok (k : Nat) : p123 k = funcS k 1 lit123 := by kernel_rfl
def p128 (_ : Nat) : CtxK → List V → TH → R := fun _ => ap 1 (fun x0 h1 =>
 kNew (V.cellsR x0) h1 fun x2 h3 =>
 kFA 0 x2 fun x4 =>
 kL1 x4 h3 fun x5 =>
 some (x5, h3))
theorem p128_ok (k : Nat) : p128 k = funcS k 1 lit128 := by kernel_rfl
def p130 (_ : Nat) : CtxK → List V → TH → R := fun X => ap 2 (fun x0 x1 h2 =>
 kNew (V.cellsR x0) h2 fun x3 h4 =>
 kNew (V.cellsR x1) h4 fun x5 h6 =>
 kFA 40 x3 fun x7 =>
 kLA 8 x7 h6 fun x10 =>
 kFA 40 x5 fun x11 =>
 kFA 1 x11 fun x12 =>
 kL1 x12 h6 fun x15 =>
 kNew zr2 h6 fun x16 h17 =>
 kSA 8 x16 x10 h17 fun _ h19 =>
 dokS [h17, h19] ((fun h13 => kL1 x12 h13 fun x14 =>
 some (x14, h13), x15, 0, 1) :: []) (kLA 49 x3 h19 fun x20 =>
 kCall X 165 [x20, x15] h19 fun x21 h22 =>
 kExt x21 0 fun x23 =>
 kExt x21 1 fun x24 =>
 kNew zr2 h22 fun x25 h26 =>
 kSA 8 x25 x23 h26 fun _ h28 =>
 jc (α := Cur 47) (fun _ _ x31 x32 _ x34 x35 _ _ _ _ _ _ _ _ _ _ _ _ _ _ _ _ _ _ _ _ _ _ _ _ _ _ _ _ _ _ _ _ _ _ _ _ _ _ _ _ h76 =>
 kLA 49 x31 h76 fun x78 =>
 kCall X 166 [x78, x35] h76 fun x79 h80 =>
 kExt x79 0 fun x81 =>
 kExt x79 1 fun x82 =>
 kNew zr5 h80 fun x83 h84 =>
 kSA 39 x83 x81 h84 fun _ h86 =>
 jc (α := JT) (fun x87 h88 =>
 jc (α := JT) (fun x90 h91 =>
 jc (α := JT) (fun x93 h94 =>
 jc (α := JT) (fun x96 h97 =>
 kPick x82 x96 qf fun x99 =>
 jc (α := JT) (fun x100 h101 =>
 jc (α := JT) (fun x103 h104 =>
 jc (α := JT) (fun x106 h107 =>
 jc (α := JT) (fun x109 h110 =>
 kPick x99 x109 qf fun x112 =>
 some (x112, h110)) fun j111 =>
 wtS x99 true (kEq' false (.agg [.bool, .str, .str, .str, .str, .bool, .str, .str, .str, .str, .bool, .str, .str, .str, .str, .bool, .str, .str, .str, .str, .bool, .str, .str, .str, .str, .bool, .str, .str, .str, .str, .int, .int, .str, .int, .int, .str, .int, .int, .str]) x100 x106 fun x113 =>
 j111 x113 h107) (j111 u h107)) fun j108 =>
 wtS x99 true (kLA 39 x103 h104 fun x114 =>
 j108 x114 h104) (j108 u h104)) fun j105 =>
 wtS x99 true (kFA 1 x32 fun x115 =>
 j105 x115 h101) (j105 u h101)) fun j102 =>
 wtS x99 true (kLA 39 x83 h97 fun x116 =>
 j102 x116 h97) (j102 u h97)) fun j98 =>
 wtS x82 true (kEq' false (.agg [.int, .int, .int, .int, .int, .int, .int, .str]) x87 x93 fun x117 =>
 j98 x117 h94) (j98 u h94)) fun j95 =>
 wtS x82 true (kLA 8 x90 h91 fun x118 =>
 j95 x118 h91) (j95 u h91)) fun j92 =>
 wtS x82 true (kFA 40 x32 fun x119 =>
 j92 x119 h88) (j92 u h88)) fun j89 =>
 wtS x82 true (kLA 8 x34 h86 fun x120 =>
 j89 x120 h86) (j89 u h86)) fun j77 =>
 brS x24 (kFA 0 x25 fun x121 =>
 kL1 x121 h28 fun x122 =>
 kFA 1 x25 fun x123 =>
 kL1 x123 h28 fun x124 =>
 kB zr2 [(0, 1, x122), (1, 1, x124)] fun x125 =>
 kSA 8 x16 x125 h28 fun _ h127 =>
 j77 u u x3 x5 u x16 x15 u u u u u u u u u u u u u u u u u u u u u u u u u u u u u u u u u u u u u u u u h127) (j77 u u x3 x5 u x16 x15 u u u u u u u u u u u u u u u u u u u u u u u u u u u u u u u u u u u u u u u u h28)))
theorem p130_ok (k : Nat) : p130 k = funcS k 2 lit130 := by kernel_rfl
def p134 (_ : Nat) : CtxK → List V → TH → R := fun _ => ap 1 (fun x0 h1 =>
 kEqI false x0 (qb 1) fun x2 =>
 brS x2 (some ((.fn 167 [] []), h1)) (kEqI false x0 (qb 2) fun x3 =>
 brS x3 (some ((.fn 168 [] []), h1)) (kEqI false x0 (qb 3) fun x4 =>
 brS x4 (some ((.fn 169 [] []), h1)) (some ((.fn 170 [] []), h1)))))
theorem p134_ok (k : Nat) : p134 k = funcS k 1 lit134 := by kernel_rfl
def p135 (_ : Nat) : CtxK → List V → TH → R := fun X => ap 2 (fun x0 x1 h2 =>
 kL1 x1 h2 fun x3 =>
 kCall X 54 [x3, x0] h2 fun x4 h5 =>
 kNot x4 fun x6 =>
 some (x6, h5))
theorem p135_ok (k : Nat) : p135 k = funcS k 2 lit135 := by kernel_rfl
def p136 (_ : Nat) : CtxK → List V → TH → R := fun X => ap 4 (fun x0 x1 x2 x3 h4 =>
 kCall X 171 [x0, x1] h4 fun x5 h6 =>
 kLen x5 fun x7 =>
 kEqI false x7 (qi 0) fun x8 =>
 brS x8 (some (.nils, h6)) (kB [.nils, (qw 0)] [(0, 1, x2), (1, 1, x3)] fun x9 =>
 kNew [.nilfn] h6 fun x10 h11 =>
 kS1 x10 (.fn 172 [x9] []) h11 fun _ h13 =>
 kLen x5 fun x14 =>
 kBin .sub x14 (qi 1) fun x15 =>
 kP (sliceE 2 x5 none (some x15)) fun x16 =>
 kCall X 173 [x16, (.fn 174 [] [x10])] h13 fun x17 h18 =>
 some (x17, h18)))
theorem p136_ok (k : Nat) : p136 k = funcS k 4 lit136 := by kernel_rfl
def p144 (k : Nat) : CtxK → List V → TH → R := fun X => ap 3 (fun x0 x1 x2 h3 =>
 kBin .add x1 (qi 1) fun x4 =>
 lp (α := Cur 49) (zN 49) (fun n55 x5 x6 x7 _ _ _ x11 _ _ _ _ _ _ _ _ _ _ _ _ _ _ _ _ _ _ _ _ _ _ _ _ _ _ _ _ _ _ _ _ _ _ _ _ _ _ _ _ _ _ h54 =>
 kBin .lss x11 x7 fun x56 =>
 brS x56 (lp (α := Cur 49) (zN 49) (fun n107 x57 x58 x59 _ _ _ x63 x64 _ _ _ _ _ _ _ _ _ _ _ _ _ _ _ _ _ _ _ _ _ _ _ _ _ _ _ _ _ _ _ _ _ _ _ _ _ _ _ _ _ h106 =>
 kBin .gtr x64 x58 fun x108 =>
 jc (α := JT) (fun x109 h110 =>
 jc (α := JT) (fun x112 h113 =>
 jc (α := JT) (fun x115 h116 =>
 jc (α := V → TH → PD → R) (fun x120 h121 d122 =>
 jc (α := JT) (fun x124 h125 =>
 jc (α := JT) (fun x127 h128 =>
 jc (α := JT) (fun x130 h131 =>
 jc (α := JT) (fun x133 h134 =>
 jc (α := V → TH → PD → R) (fun x138 h139 d140 =>
 jc (α := JT) (fun x142 h143 =>
 kPick x108 x142 qf fun x145 =>
 dokS [h139, h143] d140 (brS x145 (kBin .sub x64 (qi 1) fun x146 =>
 kBin .sub x64 (qi 1) fun x147 =>
 kIS 1 x57 x147 fun x148 =>
 kL1 x148 h143 fun x151 =>
 kIS 1 x57 x64 fun x152 =>
 kL1 x152 h143 fun x155 =>
 kIS 1 x57 x64 fun x156 =>
 kS1 x156 x151 h143 fun _ h158 =>
 kIS 1 x57 x146 fun x159 =>
 kS1 x159 x155 h158 fun _ h161 =>
 dokS [h143, h158, h161] [] (kBin .sub x64 (qi 1) fun x162 =>
 n107 x57 x58 x59 u u u x63 x162 u u u u u u u u u u u u u u u u u u u u u u u u u u u u u u u u u u u u u u u u u h161)) (kBin .add x63 (qi 1) fun x163 =>
 n55 x57 x58 x59 u u u x163 u u u u u u u u u u u u u u u u u u u u u u u u u u u u u u u u u u u u u u u u u u h143))) fun j144 =>
 wtS x108 true (kCall X 150 [x120, x138] h139 fun x164 h165 =>
 j144 x164 h165) (j144 u h139)) fun j141 =>
 wtS x108 true (kL1 x133 h134 fun x166 =>
 j141 x166 h134 d122) (j141 u h134 d122)) fun j135 =>
 wtS x108 true (kIS 1 x124 x130 fun x167 =>
 j135 x167 h131) (j135 u h131)) fun j132 =>
 wtS x108 true (kBin .sub x127 (qi 1) fun x168 =>
 j132 x168 h128) (j132 u h128)) fun j129 =>
 wtS x108 true (j129 x64 h125) (j129 u h125)) fun j126 =>
 wtS x108 true (j126 x57 h121) (j126 u h121)) fun j123 =>
 wtS x108 true (kL1 x115 h116 fun x169 =>
 j123 x169 h116 []) (j123 u h116 [])) fun j117 =>
 wtS x108 true (kIS 1 x109 x112 fun x170 =>
 j117 x170 h113) (j117 u h113)) fun j114 =>
 wtS x108 true (j114 x64 h110) (j114 u h110)) fun j111 =>
 wtS x108 true (j111 x57 h106) (j111 u h106)) k x5 x6 x7 u u u x11 x11 u u u u u u u u u u u u u u u u u u u u u u u u u u u u u u u u u u u u u u u u u h54) (some (.tup [], h54))) k x0 x1 x2 u u u x4 u u u u u u u u u u u u u u u u u u u u u u u u u u u u u u u u u u u u u u u u u u h3)
theorem p144_ok (k : Nat) : p144 k = funcS k 3 lit144 := by kernel_rfl
def p150 (_ : Nat) : CtxK → List V → TH → R := fun X => ap 2 (fun x0 x1 h2 =>
 kCall X 183 [x0] h2 fun x3 h4 =>
 jc (α := JT) (fun x5 h6 =>
 jc (α := JT) (fun x8 h9 =>
 jc (α := JT) (fun x11 h12 =>
 kPick x3 x11 qf fun x14 =>
 jc (α := JT) (fun x15 h16 =>
 jc (α := JT) (fun x18 h19 =>
 jc (α := JT) (fun x21 h22 =>
 kPick x14 qt x21 fun x24 =>
 some (x24, h22)) fun j23 =>
 wtS x14 false (kBin .lss x15 x18 fun x25 =>
 j23 x25 h19) (j23 u h19)) fun j20 =>
 wtS x14 false (j20 x1 h16) (j20 u h16)) fun j17 =>
 wtS x14 false (j17 x0 h12) (j17 u h12)) fun j13 =>
 wtS x3 true (kNot x8 fun x26 =>
 j13 x26 h9) (j13 u h9)) fun j10 =>
 wtS x3 true (kCall X 183 [x5] h6 fun x27 h28 =>
 j10 x27 h28) (j10 u h6)) fun j7 =>
 wtS x3 true (j7 x1 h4) (j7 u h4))
theorem p150_ok (k : Nat) : p150 k = funcS k 2 lit150 := by kernel_rfl
def p154 (_ : Nat) : CtxK → List V → TH → R := fun _ => ap 1 (fun x0 h1 =>
 kBin .geq x0 (.int .u64 4294967296) fun x2 =>
 jc (α := Cur 25) (fun x3 _ x5 _ _ _ _ _ _ _ _ _ _ _ _ _ _ _ _ _ _ _ _ _ _ h28 =>
 kBin .geq x3 (.int .u64 65536) fun x30 =>
 jc (α := Cur 25) (fun x31 _ x33 _ _ _ _ _ _ _ _ _ _ _ _ _ _ _ _ _ _ _ _ _ _ h56 =>
 kBin .geq x31 (.int .u64 256) fun x58 =>
 jc (α := Cur 25) (fun x59 _ x61 _ _ _ _ _ _ _ _ _ _ _ _ _ _ _ _ _ _ _ _ _ _ h84 =>
 kConv .u8 x59 fun x86 =>
 kP (indexE none (.str (bs [0, 1, 2, 2, 3, 3, 3, 3, 4, 4, 4, 4, 4, 4, 4, 4, 5, 5, 5, 5, 5, 5, 5, 5, 5, 5, 5, 5, 5, 5, 5, 5, 6, 6, 6, 6, 6, 6, 6, 6, 6, 6, 6, 6, 6, 6, 6, 6, 6, 6, 6, 6, 6, 6, 6, 6, 6, 6, 6, 6, 6, 6, 6, 6, 7, 7, 7, 7, 7, 7, 7, 7, 7, 7, 7, 7, 7, 7, 7, 7, 7, 7, 7, 7, 7, 7, 7, 7, 7, 7, 7, 7, 7, 7, 7, 7, 7, 7, 7, 7, 7, 7, 7, 7, 7, 7, 7, 7, 7, 7, 7, 7, 7, 7, 7, 7, 7, 7, 7, 7, 7, 7, 7, 7, 7, 7, 7, 7, 8, 8, 8, 8, 8, 8, 8, 8, 8, 8, 8, 8, 8, 8, 8, 8, 8, 8, 8, 8, 8, 8, 8, 8, 8, 8, 8, 8, 8, 8, 8, 8, 8, 8, 8, 8, 8, 8, 8, 8, 8, 8, 8, 8, 8, 8, 8, 8, 8, 8, 8, 8, 8, 8, 8, 8, 8, 8, 8, 8, 8, 8, 8, 8, 8, 8, 8, 8, 8, 8, 8, 8, 8, 8, 8, 8, 8, 8, 8, 8, 8, 8, 8, 8, 8, 8, 8, 8, 8, 8, 8, 8, 8, 8, 8, 8, 8, 8, 8, 8, 8, 8, 8, 8, 8, 8, 8, 8, 8, 8, 8, 8, 8, 8, 8, 8, 8, 8, 8, 8, 8, 8, 8, 8, 8, 8, 8, 8])) x86) fun x87 =>
 kConv .i64 x87 fun x88 =>
 kBin .add x61 x88 fun x89 =>
 some (x89, h84)) fun j85 =>
 brS x58 (kBin .shr x31 (.int .u64 8) fun x90 =>
 kBin .add x33 (qi 8) fun x91 =>
 j85 x90 u x91 u u u u u u u u u u u u u u u u u u u u u u h56) (j85 x31 u x33 u u u u u u u u u u u u u u u u u u u u u u h56)) fun j57 =>
 brS x30 (kBin .shr x3 (.int .u64 16) fun x92 =>
 kBin .add x5 (qi 16) fun x93 =>
 j57 x92 u x93 u u u u u u u u u u u u u u u u u u u u u u h28) (j57 x3 u x5 u u u u u u u u u u u u u u u u u u u u u u h28)) fun j29 =>
 brS x2 (kBin .shr x0 (.int .u64 32) fun x94 =>
 j29 x94 u (qi 32) u u u u u u u u u u u u u u u u u u u u u u h1) (j29 x0 u (qi 0) u u u u u u u u u u u u u u u u u u u u u u h1))
theorem p154_ok (k : Nat) : p154 k = funcS k 1 lit154 := by kernel_rfl
def p155 (_ : Nat) : CtxK → List V → TH → R := fun X => ap 2 (fun x0 x1 h2 =>
 kNew (V.cellsR x0) h2 fun x3 h4 =>
 kNew (V.cellsR x1) h4 fun x5 h6 =>
 kNew zr0 h6 fun x7 h8 =>
 kLA 49 x3 h8 fun x9 =>
 kCall X 50 [x9] h8 fun x10 h11 =>
 kNot x10 fun x12 =>
 jc (α := JT) (fun x13 h14 =>
 jc (α := JT) (fun x16 h17 =>
 jc (α := JT) (fun x19 h20 =>
 kPick x12 qt x19 fun x22 =>
 jc (α := JT) (fun x23 h24 =>
 jc (α := JT) (fun x26 h27 =>
 jc (α := JT) (fun x29 h30 =>
 kPick x22 qt x29 fun x32 =>
 jc (α := JT) (fun x33 h34 =>
 jc (α := JT) (fun x36 h37 =>
 jc (α := JT) (fun x39 h40 =>
 jc (α := JT) (fun x42 h43 =>
 jc (α := JT) (fun x45 h46 =>
 jc (α := JT) (fun x48 h49 =>
 jc (α := JT) (fun x51 h52 =>
 jc (α := JT) (fun x54 h55 =>
 jc (α := JT) (fun x57 h58 =>
 jc (α := JT) (fun x60 h61 =>
 jc (α := JT) (fun x63 h64 =>
 jc (α := JT) (fun x66 h67 =>
 jc (α := JT) (fun x69 h70 =>
 jc (α := JT) (fun x72 h73 =>
 kPick x32 qt x72 fun x75 =>
 brS x75 (kCv X (.fn 184 [] []) [] h73 fun x76 h77 =>
 kExt x76 0 fun x78 =>
 kExt x76 1 fun x79 =>
 kSA 49 x7 x78 h77 fun _ h81 =>
 rsS [.cell 4 true 49, .tmp 5] [x0, x1, x3, x5, x7, x79, (.fn 184 [] []), u, u, u, u, x9, x10, x12, x12, x13, x16, x19, x22, x22, x23, x26, x29, x32, x32, x33, x36, x39, x42, x45, x48, x51, x54, x57, x60, x63, x66, x69, x72, x75, (.fn 184 [] []), x76, x78, x79, u, u, u, u, u, u, u, u, u, u, u, u, u, u, u, u, u, u, u, u, u, u, u, u, u, u, u, u, u, u, u, u, u, u, u, u, u, u, u, u, u, u, u, u, u, u, u, u, u, u, u, u, u, u, u, u, u, u, u, u, u, u, u, u, u, u, u, u, u, u, u, u, u, u, u, u, u, u, u] h81) (kFA 0 x5 fun x82 =>
 kL1 x82 h73 fun x83 =>
 kEqI false x83 (qi 2) fun x84 =>
 brS x84 (kFA 3 x5 fun x85 =>
 kLA 49 x85 h73 fun x86 =>
 kCall X 50 [x86] h73 fun x87 h88 =>
 kNot x87 fun x89 =>
 brS x89 (kCv X (.fn 184 [] []) [] h88 fun x90 h91 =>
 kExt x90 0 fun x92 =>
 kExt x90 1 fun x93 =>
 kSA 49 x7 x92 h91 fun _ h95 =>
 rsS [.cell 4 true 49, .tmp 5] [x0, x1, x3, x5, x7, x93, (.fn 184 [] []), u, u, u, u, x9, x10, x12, x12, x13, x16, x19, x22, x22, x23, x26, x29, x32, x32, x33, x36, x39, x42, x45, x48, x51, x54, x57, x60, x63, x66, x69, x72, x75, u, u, u, u, x82, x83, x84, x85, x86, x87, x89, (.fn 184 [] []), x90, x92, x93, u, u, u, u, u, u, u, u, u, u, u, u, u, u, u, u, u, u, u, u, u, u, u, u, u, u, u, u, u, u, u, u, u, u, u, u, u, u, u, u, u, u, u, u, u, u, u, u, u, u, u, u, u, u, u, u, u, u, u, u, u, u, u, u, u, u, u, u] h95) (kFA 3 x5 fun x96 =>
 kLA 49 x96 h88 fun x97 =>
 kCall X 36 [x97] h88 fun x98 h99 =>
 kSA 49 x7 x98 h99 fun _ h101 =>
 rsS [.cell 4 true 49, .tmp 5] [x0, x1, x3, x5, x7, (qi 0), (.fn 184 [] []), u, u, u, u, x9, x10, x12, x12, x13, x16, x19, x22, x22, x23, x26, x29, x32, x32, x33, x36, x39, x42, x45, x48, x51, x54, x57, x60, x63, x66, x69, x72, x75, u, u, u, u, x82, x83, x84, x85, x86, x87, x89, u, u, u, u, x96, x97, x98, u, u, u, u, u, u, u, u, u, u, u, u, u, u, u, u, u, u, u, u, u, u, u, u, u, u, u, u, u, u, u, u, u, u, u, u, u, u, u, u, u, u, u, u, u, u, u, u, u, u, u, u, u, u, u, u, u, u, u, u, u, u, u, u, u] h101)) (kLA 49 x3 h73 fun x102 =>
 kNew zr0 h73 fun x103 h104 =>
 kSA 49 x103 x102 h104 fun _ h106 =>
 kFA 0 x5 fun x107 =>
 kL1 x107 h106 fun x108 =>
 kEqI false x108 (qi 1) fun x109 =>
 jc (α := Cur 123) (fun x110 x111 x112 x113 x114 _ x116 x117 x118 x119 _ x121 x122 x123 x124 x125 x126 x127 x128 x129 x130 x131 x132 x133 x134 x135 x136 x137 x138 x139 x140 x141 x142 x143 x144 x145 x146 x147 x148 x149 x150 x151 x152 x153 x154 x155 x156 x157 x158 x159 x160 x161 x162 x163 x164 x165 x166 x167 x168 x169 x170 x171 x172 x173 x174 x175 x176 x177 x178 x179 x180 x181 x182 x183 x184 x185 x186 x187 x188 x189 x190 x191 x192 x193 x194 x195 x196 x197 _ _ _ _ _ _ _ _ _ _ _ _ _ _ _ _ _ _ _ _ _ _ _ _ _ _ _ _ _ _ x228 x229 x230 x231 x232 h233 =>
 kLA 49 x117 h233 fun x235 =>
 kFA 3 x113 fun x236 =>
 kFA 40 x236 fun x237 =>
 kFA 1 x237 fun x238 =>
 kL1 x238 h233 fun x239 =>
 kCall X 187 [x235, x239] h233 fun x240 h241 =>
 kExt x240 0 fun x242 =>
 kExt x240 1 fun x243 =>
 kSA 49 x117 x242 h241 fun _ h245 =>
 kFA 3 x113 fun x246 =>
 kFA 0 x246 fun x247 =>
 kL1 x247 h245 fun x248 =>
 kFA 0 x117 fun x249 =>
 kS1 x249 x248 h245 fun _ h251 =>
 kEqI true x243 (qi 0) fun x252 =>
 jc (α := JT) (fun x253 h254 =>
 jc (α := JT) (fun x256 h257 =>
 jc (α := JT) (fun x259 h260 =>
 jc (α := JT) (fun x262 h263 =>
 jc (α := JT) (fun x265 h266 =>
 jc (α := JT) (fun x268 h269 =>
 jc (α := JT) (fun x271 h272 =>
 jc (α := JT) (fun x274 h275 =>
 kPick x252 qt x274 fun x277 =>
 jc (α := JT) (fun x278 h279 =>
 jc (α := JT) (fun x281 h282 =>
 jc (α := JT) (fun x284 h285 =>
 kPick x277 qt x284 fun x287 =>
 brS x287 (kCv X x116 [] h285 fun x288 h289 =>
 kExt x288 0 fun x290 =>
 kExt x288 1 fun x291 =>
 kSA 49 x114 x290 h289 fun _ h293 =>
 rsS [.cell 4 true 49, .tmp 5] [x110, x111, x112, x113, x114, x291, x116, x117, x118, x119, x243, x121, x122, x123, x124, x125, x126, x127, x128, x129, x130, x131, x132, x133, x134, x135, x136, x137, x138, x139, x140, x141, x142, x143, x144, x145, x146, x147, x148, x149, x150, x151, x152, x153, x154, x155, x156, x157, x158, x159, x160, x161, x162, x163, x164, x165, x166, x167, x168, x169, x170, x171, x172, x173, x174, x175, x176, x177, x178, x179, x180, x181, x182, x183, x184, x185, x186, x187, x188, x189, x190, x191, x192, x193, x194, x195, x196, x197, x240, x235, x236, x237, x238, x239, x240, x242, x243, x246, x247, x248, x249, x243, x252, x252, x253, x256, x259, x262, x265, x268, x271, x274, x277, x277, x278, x281, x284, x287, x116, x288, x290, x291, x232] h293) (kLA 49 x117 h285 fun x294 =>
 kSA 49 x114 x294 h285 fun _ h296 =>
 rsS [.cell 4 true 49, .tmp 5] [x110, x111, x112, x113, x114, (qi 0), x116, x117, x118, x119, x243, x121, x122, x123, x124, x125, x126, x127, x128, x129, x130, x131, x132, x133, x134, x135, x136, x137, x138, x139, x140, x141, x142, x143, x144, x145, x146, x147, x148, x149, x150, x151, x152, x153, x154, x155, x156, x157, x158, x159, x160, x161, x162, x163, x164, x165, x166, x167, x168, x169, x170, x171, x172, x173, x174, x175, x176, x177, x178, x179, x180, x181, x182, x183, x184, x185, x186, x187, x188, x189, x190, x191, x192, x193, x194, x195, x196, x197, x240, x235, x236, x237, x238, x239, x240, x242, x243, x246, x247, x248, x249, x243, x252, x252, x253, x256, x259, x262, x265, x268, x271, x274, x277, x277, x278, x281, x284, x287, x228, x229, x230, x231, x294] h296)) fun j286 =>
 wtS x277 false (kNot x281 fun x297 =>
 j286 x297 h282) (j286 u h282)) fun j283 =>
 wtS x277 false (kCall X 50 [x278] h279 fun x298 h299 =>
 j283 x298 h299) (j283 u h279)) fun j280 =>
 wtS x277 false (kLA 49 x117 h275 fun x300 =>
 j280 x300 h275) (j280 u h275)) fun j276 =>
 wtS x252 false (kEqI true x259 x271 fun x301 =>
 j276 x301 h272) (j276 u h272)) fun j273 =>
 wtS x252 false (kL1 x268 h269 fun x302 =>
 j273 x302 h269) (j273 u h269)) fun j270 =>
 wtS x252 false (kFA 0 x265 fun x303 =>
 j270 x303 h266) (j270 u h266)) fun j267 =>
 wtS x252 false (kFA 40 x262 fun x304 =>
 j267 x304 h263) (j267 u h263)) fun j264 =>
 wtS x252 false (kFA 3 x113 fun x305 =>
 j264 x305 h260) (j264 u h260)) fun j261 =>
 wtS x252 false (kL1 x256 h257 fun x306 =>
 j261 x306 h257) (j261 u h257)) fun j258 =>
 wtS x252 false (kFA 0 x253 fun x307 =>
 j258 x307 h254) (j258 u h254)) fun j255 =>
 wtS x252 false (kFA 40 x117 fun x308 =>
 j255 x308 h251) (j255 u h251)) fun j234 =>
 brS x109 (kLA 49 x3 h106 fun x309 =>
 kFA 1 x5 fun x310 =>
 kL1 x310 h106 fun x311 =>
 kCall X 185 [x309, x311] h106 fun x312 h313 =>
 kExt x312 0 fun x314 =>
 kExt x312 1 fun x315 =>
 kNew zr0 h313 fun x316 h317 =>
 kSA 49 x316 x314 h317 fun _ h319 =>
 kEqI true x315 (qi 0) fun x320 =>
 brS x320 (kCv X (.fn 184 [] []) [] h319 fun x321 h322 =>
 kExt x321 0 fun x323 =>
 kExt x321 1 fun x324 =>
 kSA 49 x7 x323 h322 fun _ h326 =>
 rsS [.cell 4 true 49, .tmp 5] [x0, x1, x3, x5, x7, x324, (.fn 184 [] []), x103, x316, x315, u, x9, x10, x12, x12, x13, x16, x19, x22, x22, x23, x26, x29, x32, x32, x33, x36, x39, x42, x45, x48, x51, x54, x57, x60, x63, x66, x69, x72, x75, u, u, u, u, x82, x83, x84, u, u, u, u, u, u, u, u, u, u, u, x102, x107, x108, x109, x312, x309, x310, x311, x312, x314, x315, x315, x320, (.fn 184 [] []), x321, x323, x324, u, u, u, u, u, u, u, u, u, u, u, u, u, u, u, u, u, u, u, u, u, u, u, u, u, u, u, u, u, u, u, u, u, u, u, u, u, u, u, u, u, u, u, u, u, u, u, u] h326) (kLA 49 x316 h319 fun x327 =>
 kFA 2 x5 fun x328 =>
 kL1 x328 h319 fun x329 =>
 kCall X 186 [x327, x329] h319 fun x330 h331 =>
 kExt x330 0 fun x332 =>
 kExt x330 1 fun x333 =>
 kSA 49 x103 x332 h331 fun _ h335 =>
 kEqI true x333 (qi 0) fun x336 =>
 brS x336 (kCv X (.fn 184 [] []) [] h335 fun x337 h338 =>
 kExt x337 0 fun x339 =>
 kExt x337 1 fun x340 =>
 kSA 49 x7 x339 h338 fun _ h342 =>
 rsS [.cell 4 true 49, .tmp 5] [x0, x1, x3, x5, x7, x340, (.fn 184 [] []), x103, x316, x333, u, x9, x10, x12, x12, x13, x16, x19, x22, x22, x23, x26, x29, x32, x32, x33, x36, x39, x42, x45, x48, x51, x54, x57, x60, x63, x66, x69, x72, x75, u, u, u, u, x82, x83, x84, u, u, u, u, u, u, u, u, u, u, u, x102, x107, x108, x109, x312, x309, x310, x311, x312, x314, x315, x315, x320, u, u, u, u, x330, x327, x328, x329, x330, x332, x333, x333, x336, (.fn 184 [] []), x337, x339, x340, u, u, u, u, u, u, u, u, u, u, u, u, u, u, u, u, u, u, u, u, u, u, u, u, u, u, u, u, u, u, u, u, u, u, u] h342) (j234 u u u x5 x7 u (.fn 184 [] []) x103 u u u u u u u u u u u u u u u u u u u u u u u u u u u u u u u u u u u u u u u u u u u u u u u u u u u u u u u u u u u u u u u u u u u u u u u u u u u u u u u u u u u u u u u u u u u u u u u u u u u u u u u u u u u u u u u u u u u h335))) (j234 u u u x5 x7 u (.fn 184 [] []) x103 u u u u u u u u u u u u u u u u u u u u u u u u u u u u u u u u u u u u u u u u u u u u u u u u u u u u u u u u u u u u u u u u u u u u u u u u u u u u u u u u u u u u u u u u u u u u u u u u u u u u u u u u u u u u u u u u u u u h106)))) fun j74 =>
 wtS x32 false (kPick x42 x69 qf fun x343 =>
 j74 x343 h70) (j74 u h70)) fun j71 =>
 wtS x42 true (kPick x57 qt x66 fun x344 =>
 j71 x344 h67) (j71 u h67)) fun j68 =>
 wtS x57 false (kEqI true x63 (qw 0) fun x345 =>
 j68 x345 h64) (j68 u h64)) fun j65 =>
 wtS x57 false (kL1 x60 h61 fun x346 =>
 j65 x346 h61) (j65 u h61)) fun j62 =>
 wtS x57 false (kFA 1 x5 fun x347 =>
 j62 x347 h58) (j62 u h58)) fun j59 =>
 wtS x42 true (j59 x54 h55) (j59 u h55)) fun j56 =>
 wtS x42 true (kBin .gtr x51 (qi 0) fun x348 =>
 j56 x348 h52) (j56 u h52)) fun j53 =>
 wtS x42 true (kLen x48 fun x349 =>
 j53 x349 h49) (j53 u h49)) fun j50 =>
 wtS x42 true (kL1 x45 h46 fun x350 =>
 j50 x350 h46) (j50 u h46)) fun j47 =>
 wtS x42 true (kFA 2 x5 fun x351 =>
 j47 x351 h43) (j47 u h43)) fun j44 =>
 wtS x32 false (j44 x39 h40) (j44 u h40)) fun j41 =>
 wtS x32 false (kEqI true x36 (qi 1) fun x352 =>
 j41 x352 h37) (j41 u h37)) fun j38 =>
 wtS x32 false (kL1 x33 h34 fun x353 =>
 j38 x353 h34) (j38 u h34)) fun j35 =>
 wtS x32 false (kFA 0 x5 fun x354 =>
 j35 x354 h30) (j35 u h30)) fun j31 =>
 wtS x22 false (kBin .gtr x26 (qi 2) fun x355 =>
 j31 x355 h27) (j31 u h27)) fun j28 =>
 wtS x22 false (kL1 x23 h24 fun x356 =>
 j28 x356 h24) (j28 u h24)) fun j25 =>
 wtS x22 false (kFA 0 x5 fun x357 =>
 j25 x357 h20) (j25 u h20)) fun j21 =>
 wtS x12 false (kBin .lss x16 (qi 0) fun x358 =>
 j21 x358 h17) (j21 u h17)) fun j18 =>
 wtS x12 false (kL1 x13 h14 fun x359 =>
 j18 x359 h14) (j18 u h14)) fun j15 =>
 wtS x12 false (kFA 0 x5 fun x360 =>
 j15 x360 h11) (j15 u h11))
theorem p155_ok (k : Nat) : p155 k = funcS k 2 lit155 := by kernel_rfl
def p173 (k : Nat) : CtxK → List V → TH → R := fun X => ap 2 (fun x0 x1 h2 =>
 kCall X 194 [x0, x1] h2 fun x3 h4 =>
 kEqI false x3 (.int .i64 (-1)) fun x5 =>
 brS x5 (some (x0, h4)) (kBin .add x3 (qi 1) fun x6 =>
 lp (α := Cur 42) (zN 42) (fun n50 x7 x8 _ _ _ x12 x13 _ _ _ _ _ _ _ _ _ _ _ _ _ _ _ _ _ _ _ _ _ _ _ _ _ _ _ _ _ _ _ _ _ _ _ h49 =>
 kLen x7 fun x51 =>
 kBin .lss x13 x51 fun x52 =>
 brS x52 (kIS 2 x7 x13 fun x53 =>
 kLA 2 x53 h49 fun x54 =>
 kNew [(qw 0), .nils] h49 fun x55 h56 =>
 kSA 2 x55 x54 h56 fun _ h58 =>
 kLA 2 x55 h58 fun x59 =>
 kCv X x8 [x59] h58 fun x60 h61 =>
 kNot x60 fun x62 =>
 jc (α := Cur 42) (fun x63 x64 _ _ _ x68 x69 _ _ _ _ _ _ _ _ _ _ _ _ _ _ _ _ _ _ _ _ _ _ _ _ _ _ _ _ _ _ _ _ _ _ _ h105 =>
 kBin .add x69 (qi 1) fun x107 =>
 n50 x63 x64 u u u x68 x107 u u u u u u u u u u u u u u u u u u u u u u u u u u u u u u u u u u u h105) fun j106 =>
 brS x62 (kLA 2 x55 h61 fun x108 =>
 kIS 2 x7 x12 fun x109 =>
 kSA 2 x109 x108 h61 fun _ h111 =>
 kBin .add x12 (qi 1) fun x112 =>
 j106 x7 x8 u u u x112 x13 u u u u u u u u u u u u u u u u u u u u u u u u u u u u u u u u u u u h111) (j106 x7 x8 u u u x12 x13 u u u u u u u u u u u u u u u u u u u u u u u u u u u u u u u u u u u h61)) (kP (sliceE 2 x7 (some x12) none) fun x113 =>
 kCl [(qw 0), .nils] 2 x113 h49 fun _ h115 =>
 kP (sliceE 2 x7 none (some x12)) fun x116 =>
 some (x116, h115))) k x0 x1 u u u x3 x6 u u u u u u u u u u u u u u u u u u u u u u u u u u u u u u u u u u u h4))
theorem p173_ok (k : Nat) : p173 k = funcS k 2 lit173 := by kernel_rfl
def p174 (_ : Nat) : CtxK → List V → TH → R := fun X => ap 2 (fun x0 x1 h2 =>
 kNew (V.cellsR x0) h2 fun x3 h4 =>
 kL1 x1 h4 fun x5 =>
 kLA 2 x3 h4 fun x6 =>
 kCv X x5 [x6] h4 fun x7 h8 =>
 kNot x7 fun x9 =>
 some (x9, h8))
theorem p174_ok (k : Nat) : p174 k = funcS k 2 lit174 := by kernel_rfl
def p176 (_ : Nat) : CtxK → List V → TH → R := fun X => ap 1 (fun x0 h1 =>
 kNew (V.cellsR x0) h1 fun x2 h3 =>
 kLA 16 x2 h3 fun x4 =>
 kCall X 127 [x4, (.fn 195 [] [])] h3 fun x5 h6 =>
 some (x5, h6))
theorem p176_ok (k : Nat) : p176 k = funcS k 1 lit176 := by kernel_rfl
def p177 (k : Nat) : CtxK → List V → TH → R := fun X => ap 2 (fun x0 x1 h2 =>
 lp (α := Cur 31) (zN 31) (fun n35 x3 x4 _ _ x7 _ _ x10 _ _ _ _ _ _ _ _ _ _ _ _ _ _ _ _ _ _ _ _ _ _ _ h34 =>
 kBin .lss x10 (qi 20) fun x36 =>
 brS x36 (kBin .mul x10 (qi 3) fun x37 =>
 kBin .add x4 x37 fun x38 =>
 kCv X x7 [x3, x38] h34 fun x39 h40 =>
 kCall X 197 [x3, x39] h40 fun x41 h42 =>
 brS x41 (kNilc x3 fun x43 =>
 kFA 18 x43 fun x44 =>
 kL1 x44 h42 fun x45 =>
 kBS 1 [(qi 0)] 1 [(0, 1, x39)] h42 fun x46 h47 =>
 kAp 1 8 x45 x46 h47 fun x48 h49 =>
 kNilc x3 fun x50 =>
 kFA 18 x50 fun x51 =>
 kS1 x51 x48 h49 fun _ h53 =>
 some (.tup [], h53)) (kBin .add x10 (qi 1) fun x54 =>
 n35 x3 x4 u u x7 u u x54 u u u u u u u u u u u u u u u u u u u u u u u h42)) (some (.tup [], h34))) k x0 x1 u u (.fn 196 [] []) u u (qi 0) u u u u u u u u u u u u u u u u u u u u u u u h2)
theorem p177_ok (k : Nat) : p177 k = funcS k 2 lit177 := by kernel_rfl
def p229 (_ : Nat) : CtxK → List V → TH → R := fun _ => ap 1 (fun x0 h1 =>
 kNilc x0 fun x2 =>
 kFA 0 x2 fun x3 =>
 kL1 x3 h1 fun x6 =>
 kNilc x0 fun x7 =>
 kFA 0 x7 fun x8 =>
 kL1 x8 h1 fun x11 =>
 kBin .mul x6 x11 fun x12 =>
 kBin .shr x12 (.int .u64 31) fun x13 =>
 kNilc x0 fun x14 =>
 kFA 0 x14 fun x15 =>
 kS1 x15 x13 h1 fun _ h17 =>
 dokS [h1, h17] [] (kNilc x0 fun x18 =>
 kFA 1 x18 fun x19 =>
 kL1 x19 h17 fun x20 =>
 kBin .shl x20 (.int .u64 1) fun x21 =>
 kNilc x0 fun x22 =>
 kFA 1 x22 fun x23 =>
 kS1 x23 x21 h17 fun _ h25 =>
 kNilc x0 fun x26 =>
 kFA 0 x26 fun x27 =>
 kL1 x27 h25 fun x28 =>
 kBin .geq x28 (.int .u64 4294967296) fun x29 =>
 jc (α := Cur 41) (fun _ _ _ _ _ _ _ _ _ _ _ _ _ _ _ _ _ _ _ _ _ _ _ _ _ _ _ _ _ _ _ _ _ _ _ _ _ _ _ _ _ h71 =>
 some (.tup [], h71)) fun j72 =>
 brS x29 (kNilc x0 fun x73 =>
 kFA 0 x73 fun x74 =>
 kL1 x74 h25 fun x75 =>
 kBin .shr x75 (.int .u64 1) fun x76 =>
 kNilc x0 fun x77 =>
 kFA 0 x77 fun x78 =>
 kS1 x78 x76 h25 fun _ h80 =>
 kNilc x0 fun x81 =>
 kFA 1 x81 fun x82 =>
 kL1 x82 h80 fun x83 =>
 kBin .or x83 (qi 1) fun x84 =>
 kNilc x0 fun x85 =>
 kFA 1 x85 fun x86 =>
 kS1 x86 x84 h80 fun _ h88 =>
 j72 u u u u u u u u u u u u u u u u u u u u u u u u u u u u u u u u u u u u u u u u u h88) (j72 u u u u u u u u u u u u u u u u u u u u u u u u u u u u u u u u u u u u u u u u u h25)))
theorem p229_ok (k : Nat) : p229 k = funcS k 1 lit229 := by kernel_rfl
end
end Go.PE
