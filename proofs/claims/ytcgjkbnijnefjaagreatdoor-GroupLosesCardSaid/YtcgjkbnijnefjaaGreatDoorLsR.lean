/- GroupLoses' call, at every input: it returns true, and nothing that was there turns. -/
import Derived.Test.YtcgjkbnijnefjaaGreatDoorLsE00
import Derived.Test.YtcgjkbnijnefjaaGreatDoorLsE01
import Derived.Test.YtcgjkbnijnefjaaGreatDoorLsE02
import Derived.Test.YtcgjkbnijnefjaaGreatDoorLsE03
import Derived.Test.YtcgjkbnijnefjaaGreatDoorLsE10
import Derived.Test.YtcgjkbnijnefjaaGreatDoorLsE11
import Derived.Test.YtcgjkbnijnefjaaGreatDoorLsE12
import Derived.Test.YtcgjkbnijnefjaaGreatDoorLsE13
import Derived.Test.YtcgjkbnijnefjaaGreatDoorLsE14
import Derived.Test.YtcgjkbnijnefjaaGreatDoorLsE20
import Derived.Test.YtcgjkbnijnefjaaGreatDoorLsE21
import Derived.Test.YtcgjkbnijnefjaaGreatDoorLsE22
import Derived.Test.YtcgjkbnijnefjaaGreatDoorLsE23
import Derived.Test.YtcgjkbnijnefjaaGreatDoorLsE30
import Derived.Test.YtcgjkbnijnefjaaGreatDoorLsE31
import Derived.Test.YtcgjkbnijnefjaaGreatDoorLsE32
import Derived.Test.YtcgjkbnijnefjaaGreatDoorLsE33
namespace Go.PE
open Go.Proofs Go.RowKit

theorem chunk_of {p : Nat → Bool} {a k : Nat} (h : ((List.range' a k).all p) = true) {s : Nat} (h1 : a ≤ s) (h2 : s < a + k) : p s = true := List.all_eq_true.1 h s (List.mem_range'_1.2 ⟨h1, h2⟩)
theorem Ls0.all (s : Nat) (h : s < 427) : Ls0.st s = true := by
  by_cases h0 : s < 8
  · exact chunk_of Ls0.s0 (by omega) (by omega)
  by_cases h1 : s < 16
  · exact chunk_of Ls0.s1 (by omega) (by omega)
  by_cases h2 : s < 24
  · exact chunk_of Ls0.s2 (by omega) (by omega)
  by_cases h3 : s < 32
  · exact chunk_of Ls0.s3 (by omega) (by omega)
  by_cases h4 : s < 40
  · exact chunk_of Ls0.s4 (by omega) (by omega)
  by_cases h5 : s < 48
  · exact chunk_of Ls0.s5 (by omega) (by omega)
  by_cases h6 : s < 56
  · exact chunk_of Ls0.s6 (by omega) (by omega)
  by_cases h7 : s < 64
  · exact chunk_of Ls0.s7 (by omega) (by omega)
  by_cases h8 : s < 72
  · exact chunk_of Ls0.s8 (by omega) (by omega)
  by_cases h9 : s < 80
  · exact chunk_of Ls0.s9 (by omega) (by omega)
  by_cases h10 : s < 88
  · exact chunk_of Ls0.s10 (by omega) (by omega)
  by_cases h11 : s < 96
  · exact chunk_of Ls0.s11 (by omega) (by omega)
  by_cases h12 : s < 104
  · exact chunk_of Ls0.s12 (by omega) (by omega)
  by_cases h13 : s < 112
  · exact chunk_of Ls0.s13 (by omega) (by omega)
  by_cases h14 : s < 120
  · exact chunk_of Ls0.s14 (by omega) (by omega)
  by_cases h15 : s < 128
  · exact chunk_of Ls0.s15 (by omega) (by omega)
  by_cases h16 : s < 136
  · exact chunk_of Ls0.s16 (by omega) (by omega)
  by_cases h17 : s < 144
  · exact chunk_of Ls0.s17 (by omega) (by omega)
  by_cases h18 : s < 152
  · exact chunk_of Ls0.s18 (by omega) (by omega)
  by_cases h19 : s < 160
  · exact chunk_of Ls0.s19 (by omega) (by omega)
  by_cases h20 : s < 168
  · exact chunk_of Ls0.s20 (by omega) (by omega)
  by_cases h21 : s < 176
  · exact chunk_of Ls0.s21 (by omega) (by omega)
  by_cases h22 : s < 184
  · exact chunk_of Ls0.s22 (by omega) (by omega)
  by_cases h23 : s < 192
  · exact chunk_of Ls0.s23 (by omega) (by omega)
  by_cases h24 : s < 200
  · exact chunk_of Ls0.s24 (by omega) (by omega)
  by_cases h25 : s < 208
  · exact chunk_of Ls0.s25 (by omega) (by omega)
  by_cases h26 : s < 216
  · exact chunk_of Ls0.s26 (by omega) (by omega)
  by_cases h27 : s < 224
  · exact chunk_of Ls0.s27 (by omega) (by omega)
  by_cases h28 : s < 232
  · exact chunk_of Ls0.s28 (by omega) (by omega)
  by_cases h29 : s < 240
  · exact chunk_of Ls0.s29 (by omega) (by omega)
  by_cases h30 : s < 248
  · exact chunk_of Ls0.s30 (by omega) (by omega)
  by_cases h31 : s < 256
  · exact chunk_of Ls0.s31 (by omega) (by omega)
  by_cases h32 : s < 264
  · exact chunk_of Ls0.s32 (by omega) (by omega)
  by_cases h33 : s < 272
  · exact chunk_of Ls0.s33 (by omega) (by omega)
  by_cases h34 : s < 280
  · exact chunk_of Ls0.s34 (by omega) (by omega)
  by_cases h35 : s < 288
  · exact chunk_of Ls0.s35 (by omega) (by omega)
  by_cases h36 : s < 296
  · exact chunk_of Ls0.s36 (by omega) (by omega)
  by_cases h37 : s < 304
  · exact chunk_of Ls0.s37 (by omega) (by omega)
  by_cases h38 : s < 312
  · exact chunk_of Ls0.s38 (by omega) (by omega)
  by_cases h39 : s < 320
  · exact chunk_of Ls0.s39 (by omega) (by omega)
  by_cases h40 : s < 328
  · exact chunk_of Ls0.s40 (by omega) (by omega)
  by_cases h41 : s < 336
  · exact chunk_of Ls0.s41 (by omega) (by omega)
  by_cases h42 : s < 344
  · exact chunk_of Ls0.s42 (by omega) (by omega)
  by_cases h43 : s < 352
  · exact chunk_of Ls0.s43 (by omega) (by omega)
  by_cases h44 : s < 360
  · exact chunk_of Ls0.s44 (by omega) (by omega)
  by_cases h45 : s < 368
  · exact chunk_of Ls0.s45 (by omega) (by omega)
  by_cases h46 : s < 376
  · exact chunk_of Ls0.s46 (by omega) (by omega)
  by_cases h47 : s < 384
  · exact chunk_of Ls0.s47 (by omega) (by omega)
  by_cases h48 : s < 392
  · exact chunk_of Ls0.s48 (by omega) (by omega)
  by_cases h49 : s < 400
  · exact chunk_of Ls0.s49 (by omega) (by omega)
  by_cases h50 : s < 408
  · exact chunk_of Ls0.s50 (by omega) (by omega)
  by_cases h51 : s < 416
  · exact chunk_of Ls0.s51 (by omega) (by omega)
  by_cases h52 : s < 424
  · exact chunk_of Ls0.s52 (by omega) (by omega)
  exact chunk_of Ls0.s53 (by omega) (by omega)
theorem Ls1.all (s : Nat) (h : s < 432) : Ls1.st s = true := by
  by_cases h0 : s < 8
  · exact chunk_of Ls1.s0 (by omega) (by omega)
  by_cases h1 : s < 16
  · exact chunk_of Ls1.s1 (by omega) (by omega)
  by_cases h2 : s < 24
  · exact chunk_of Ls1.s2 (by omega) (by omega)
  by_cases h3 : s < 32
  · exact chunk_of Ls1.s3 (by omega) (by omega)
  by_cases h4 : s < 40
  · exact chunk_of Ls1.s4 (by omega) (by omega)
  by_cases h5 : s < 48
  · exact chunk_of Ls1.s5 (by omega) (by omega)
  by_cases h6 : s < 56
  · exact chunk_of Ls1.s6 (by omega) (by omega)
  by_cases h7 : s < 64
  · exact chunk_of Ls1.s7 (by omega) (by omega)
  by_cases h8 : s < 72
  · exact chunk_of Ls1.s8 (by omega) (by omega)
  by_cases h9 : s < 80
  · exact chunk_of Ls1.s9 (by omega) (by omega)
  by_cases h10 : s < 88
  · exact chunk_of Ls1.s10 (by omega) (by omega)
  by_cases h11 : s < 96
  · exact chunk_of Ls1.s11 (by omega) (by omega)
  by_cases h12 : s < 104
  · exact chunk_of Ls1.s12 (by omega) (by omega)
  by_cases h13 : s < 112
  · exact chunk_of Ls1.s13 (by omega) (by omega)
  by_cases h14 : s < 120
  · exact chunk_of Ls1.s14 (by omega) (by omega)
  by_cases h15 : s < 128
  · exact chunk_of Ls1.s15 (by omega) (by omega)
  by_cases h16 : s < 136
  · exact chunk_of Ls1.s16 (by omega) (by omega)
  by_cases h17 : s < 144
  · exact chunk_of Ls1.s17 (by omega) (by omega)
  by_cases h18 : s < 152
  · exact chunk_of Ls1.s18 (by omega) (by omega)
  by_cases h19 : s < 160
  · exact chunk_of Ls1.s19 (by omega) (by omega)
  by_cases h20 : s < 168
  · exact chunk_of Ls1.s20 (by omega) (by omega)
  by_cases h21 : s < 176
  · exact chunk_of Ls1.s21 (by omega) (by omega)
  by_cases h22 : s < 184
  · exact chunk_of Ls1.s22 (by omega) (by omega)
  by_cases h23 : s < 192
  · exact chunk_of Ls1.s23 (by omega) (by omega)
  by_cases h24 : s < 200
  · exact chunk_of Ls1.s24 (by omega) (by omega)
  by_cases h25 : s < 208
  · exact chunk_of Ls1.s25 (by omega) (by omega)
  by_cases h26 : s < 216
  · exact chunk_of Ls1.s26 (by omega) (by omega)
  by_cases h27 : s < 224
  · exact chunk_of Ls1.s27 (by omega) (by omega)
  by_cases h28 : s < 232
  · exact chunk_of Ls1.s28 (by omega) (by omega)
  by_cases h29 : s < 240
  · exact chunk_of Ls1.s29 (by omega) (by omega)
  by_cases h30 : s < 248
  · exact chunk_of Ls1.s30 (by omega) (by omega)
  by_cases h31 : s < 256
  · exact chunk_of Ls1.s31 (by omega) (by omega)
  by_cases h32 : s < 264
  · exact chunk_of Ls1.s32 (by omega) (by omega)
  by_cases h33 : s < 272
  · exact chunk_of Ls1.s33 (by omega) (by omega)
  by_cases h34 : s < 280
  · exact chunk_of Ls1.s34 (by omega) (by omega)
  by_cases h35 : s < 288
  · exact chunk_of Ls1.s35 (by omega) (by omega)
  by_cases h36 : s < 296
  · exact chunk_of Ls1.s36 (by omega) (by omega)
  by_cases h37 : s < 304
  · exact chunk_of Ls1.s37 (by omega) (by omega)
  by_cases h38 : s < 312
  · exact chunk_of Ls1.s38 (by omega) (by omega)
  by_cases h39 : s < 320
  · exact chunk_of Ls1.s39 (by omega) (by omega)
  by_cases h40 : s < 328
  · exact chunk_of Ls1.s40 (by omega) (by omega)
  by_cases h41 : s < 336
  · exact chunk_of Ls1.s41 (by omega) (by omega)
  by_cases h42 : s < 344
  · exact chunk_of Ls1.s42 (by omega) (by omega)
  by_cases h43 : s < 352
  · exact chunk_of Ls1.s43 (by omega) (by omega)
  by_cases h44 : s < 360
  · exact chunk_of Ls1.s44 (by omega) (by omega)
  by_cases h45 : s < 368
  · exact chunk_of Ls1.s45 (by omega) (by omega)
  by_cases h46 : s < 376
  · exact chunk_of Ls1.s46 (by omega) (by omega)
  by_cases h47 : s < 384
  · exact chunk_of Ls1.s47 (by omega) (by omega)
  by_cases h48 : s < 392
  · exact chunk_of Ls1.s48 (by omega) (by omega)
  by_cases h49 : s < 400
  · exact chunk_of Ls1.s49 (by omega) (by omega)
  by_cases h50 : s < 408
  · exact chunk_of Ls1.s50 (by omega) (by omega)
  by_cases h51 : s < 416
  · exact chunk_of Ls1.s51 (by omega) (by omega)
  by_cases h52 : s < 424
  · exact chunk_of Ls1.s52 (by omega) (by omega)
  exact chunk_of Ls1.s53 (by omega) (by omega)
theorem Ls2.all (s : Nat) (h : s < 427) : Ls2.st s = true := by
  by_cases h0 : s < 8
  · exact chunk_of Ls2.s0 (by omega) (by omega)
  by_cases h1 : s < 16
  · exact chunk_of Ls2.s1 (by omega) (by omega)
  by_cases h2 : s < 24
  · exact chunk_of Ls2.s2 (by omega) (by omega)
  by_cases h3 : s < 32
  · exact chunk_of Ls2.s3 (by omega) (by omega)
  by_cases h4 : s < 40
  · exact chunk_of Ls2.s4 (by omega) (by omega)
  by_cases h5 : s < 48
  · exact chunk_of Ls2.s5 (by omega) (by omega)
  by_cases h6 : s < 56
  · exact chunk_of Ls2.s6 (by omega) (by omega)
  by_cases h7 : s < 64
  · exact chunk_of Ls2.s7 (by omega) (by omega)
  by_cases h8 : s < 72
  · exact chunk_of Ls2.s8 (by omega) (by omega)
  by_cases h9 : s < 80
  · exact chunk_of Ls2.s9 (by omega) (by omega)
  by_cases h10 : s < 88
  · exact chunk_of Ls2.s10 (by omega) (by omega)
  by_cases h11 : s < 96
  · exact chunk_of Ls2.s11 (by omega) (by omega)
  by_cases h12 : s < 104
  · exact chunk_of Ls2.s12 (by omega) (by omega)
  by_cases h13 : s < 112
  · exact chunk_of Ls2.s13 (by omega) (by omega)
  by_cases h14 : s < 120
  · exact chunk_of Ls2.s14 (by omega) (by omega)
  by_cases h15 : s < 128
  · exact chunk_of Ls2.s15 (by omega) (by omega)
  by_cases h16 : s < 136
  · exact chunk_of Ls2.s16 (by omega) (by omega)
  by_cases h17 : s < 144
  · exact chunk_of Ls2.s17 (by omega) (by omega)
  by_cases h18 : s < 152
  · exact chunk_of Ls2.s18 (by omega) (by omega)
  by_cases h19 : s < 160
  · exact chunk_of Ls2.s19 (by omega) (by omega)
  by_cases h20 : s < 168
  · exact chunk_of Ls2.s20 (by omega) (by omega)
  by_cases h21 : s < 176
  · exact chunk_of Ls2.s21 (by omega) (by omega)
  by_cases h22 : s < 184
  · exact chunk_of Ls2.s22 (by omega) (by omega)
  by_cases h23 : s < 192
  · exact chunk_of Ls2.s23 (by omega) (by omega)
  by_cases h24 : s < 200
  · exact chunk_of Ls2.s24 (by omega) (by omega)
  by_cases h25 : s < 208
  · exact chunk_of Ls2.s25 (by omega) (by omega)
  by_cases h26 : s < 216
  · exact chunk_of Ls2.s26 (by omega) (by omega)
  by_cases h27 : s < 224
  · exact chunk_of Ls2.s27 (by omega) (by omega)
  by_cases h28 : s < 232
  · exact chunk_of Ls2.s28 (by omega) (by omega)
  by_cases h29 : s < 240
  · exact chunk_of Ls2.s29 (by omega) (by omega)
  by_cases h30 : s < 248
  · exact chunk_of Ls2.s30 (by omega) (by omega)
  by_cases h31 : s < 256
  · exact chunk_of Ls2.s31 (by omega) (by omega)
  by_cases h32 : s < 264
  · exact chunk_of Ls2.s32 (by omega) (by omega)
  by_cases h33 : s < 272
  · exact chunk_of Ls2.s33 (by omega) (by omega)
  by_cases h34 : s < 280
  · exact chunk_of Ls2.s34 (by omega) (by omega)
  by_cases h35 : s < 288
  · exact chunk_of Ls2.s35 (by omega) (by omega)
  by_cases h36 : s < 296
  · exact chunk_of Ls2.s36 (by omega) (by omega)
  by_cases h37 : s < 304
  · exact chunk_of Ls2.s37 (by omega) (by omega)
  by_cases h38 : s < 312
  · exact chunk_of Ls2.s38 (by omega) (by omega)
  by_cases h39 : s < 320
  · exact chunk_of Ls2.s39 (by omega) (by omega)
  by_cases h40 : s < 328
  · exact chunk_of Ls2.s40 (by omega) (by omega)
  by_cases h41 : s < 336
  · exact chunk_of Ls2.s41 (by omega) (by omega)
  by_cases h42 : s < 344
  · exact chunk_of Ls2.s42 (by omega) (by omega)
  by_cases h43 : s < 352
  · exact chunk_of Ls2.s43 (by omega) (by omega)
  by_cases h44 : s < 360
  · exact chunk_of Ls2.s44 (by omega) (by omega)
  by_cases h45 : s < 368
  · exact chunk_of Ls2.s45 (by omega) (by omega)
  by_cases h46 : s < 376
  · exact chunk_of Ls2.s46 (by omega) (by omega)
  by_cases h47 : s < 384
  · exact chunk_of Ls2.s47 (by omega) (by omega)
  by_cases h48 : s < 392
  · exact chunk_of Ls2.s48 (by omega) (by omega)
  by_cases h49 : s < 400
  · exact chunk_of Ls2.s49 (by omega) (by omega)
  by_cases h50 : s < 408
  · exact chunk_of Ls2.s50 (by omega) (by omega)
  by_cases h51 : s < 416
  · exact chunk_of Ls2.s51 (by omega) (by omega)
  by_cases h52 : s < 424
  · exact chunk_of Ls2.s52 (by omega) (by omega)
  exact chunk_of Ls2.s53 (by omega) (by omega)
theorem Ls3.all (s : Nat) (h : s < 427) : Ls3.st s = true := by
  by_cases h0 : s < 8
  · exact chunk_of Ls3.s0 (by omega) (by omega)
  by_cases h1 : s < 16
  · exact chunk_of Ls3.s1 (by omega) (by omega)
  by_cases h2 : s < 24
  · exact chunk_of Ls3.s2 (by omega) (by omega)
  by_cases h3 : s < 32
  · exact chunk_of Ls3.s3 (by omega) (by omega)
  by_cases h4 : s < 40
  · exact chunk_of Ls3.s4 (by omega) (by omega)
  by_cases h5 : s < 48
  · exact chunk_of Ls3.s5 (by omega) (by omega)
  by_cases h6 : s < 56
  · exact chunk_of Ls3.s6 (by omega) (by omega)
  by_cases h7 : s < 64
  · exact chunk_of Ls3.s7 (by omega) (by omega)
  by_cases h8 : s < 72
  · exact chunk_of Ls3.s8 (by omega) (by omega)
  by_cases h9 : s < 80
  · exact chunk_of Ls3.s9 (by omega) (by omega)
  by_cases h10 : s < 88
  · exact chunk_of Ls3.s10 (by omega) (by omega)
  by_cases h11 : s < 96
  · exact chunk_of Ls3.s11 (by omega) (by omega)
  by_cases h12 : s < 104
  · exact chunk_of Ls3.s12 (by omega) (by omega)
  by_cases h13 : s < 112
  · exact chunk_of Ls3.s13 (by omega) (by omega)
  by_cases h14 : s < 120
  · exact chunk_of Ls3.s14 (by omega) (by omega)
  by_cases h15 : s < 128
  · exact chunk_of Ls3.s15 (by omega) (by omega)
  by_cases h16 : s < 136
  · exact chunk_of Ls3.s16 (by omega) (by omega)
  by_cases h17 : s < 144
  · exact chunk_of Ls3.s17 (by omega) (by omega)
  by_cases h18 : s < 152
  · exact chunk_of Ls3.s18 (by omega) (by omega)
  by_cases h19 : s < 160
  · exact chunk_of Ls3.s19 (by omega) (by omega)
  by_cases h20 : s < 168
  · exact chunk_of Ls3.s20 (by omega) (by omega)
  by_cases h21 : s < 176
  · exact chunk_of Ls3.s21 (by omega) (by omega)
  by_cases h22 : s < 184
  · exact chunk_of Ls3.s22 (by omega) (by omega)
  by_cases h23 : s < 192
  · exact chunk_of Ls3.s23 (by omega) (by omega)
  by_cases h24 : s < 200
  · exact chunk_of Ls3.s24 (by omega) (by omega)
  by_cases h25 : s < 208
  · exact chunk_of Ls3.s25 (by omega) (by omega)
  by_cases h26 : s < 216
  · exact chunk_of Ls3.s26 (by omega) (by omega)
  by_cases h27 : s < 224
  · exact chunk_of Ls3.s27 (by omega) (by omega)
  by_cases h28 : s < 232
  · exact chunk_of Ls3.s28 (by omega) (by omega)
  by_cases h29 : s < 240
  · exact chunk_of Ls3.s29 (by omega) (by omega)
  by_cases h30 : s < 248
  · exact chunk_of Ls3.s30 (by omega) (by omega)
  by_cases h31 : s < 256
  · exact chunk_of Ls3.s31 (by omega) (by omega)
  by_cases h32 : s < 264
  · exact chunk_of Ls3.s32 (by omega) (by omega)
  by_cases h33 : s < 272
  · exact chunk_of Ls3.s33 (by omega) (by omega)
  by_cases h34 : s < 280
  · exact chunk_of Ls3.s34 (by omega) (by omega)
  by_cases h35 : s < 288
  · exact chunk_of Ls3.s35 (by omega) (by omega)
  by_cases h36 : s < 296
  · exact chunk_of Ls3.s36 (by omega) (by omega)
  by_cases h37 : s < 304
  · exact chunk_of Ls3.s37 (by omega) (by omega)
  by_cases h38 : s < 312
  · exact chunk_of Ls3.s38 (by omega) (by omega)
  by_cases h39 : s < 320
  · exact chunk_of Ls3.s39 (by omega) (by omega)
  by_cases h40 : s < 328
  · exact chunk_of Ls3.s40 (by omega) (by omega)
  by_cases h41 : s < 336
  · exact chunk_of Ls3.s41 (by omega) (by omega)
  by_cases h42 : s < 344
  · exact chunk_of Ls3.s42 (by omega) (by omega)
  by_cases h43 : s < 352
  · exact chunk_of Ls3.s43 (by omega) (by omega)
  by_cases h44 : s < 360
  · exact chunk_of Ls3.s44 (by omega) (by omega)
  by_cases h45 : s < 368
  · exact chunk_of Ls3.s45 (by omega) (by omega)
  by_cases h46 : s < 376
  · exact chunk_of Ls3.s46 (by omega) (by omega)
  by_cases h47 : s < 384
  · exact chunk_of Ls3.s47 (by omega) (by omega)
  by_cases h48 : s < 392
  · exact chunk_of Ls3.s48 (by omega) (by omega)
  by_cases h49 : s < 400
  · exact chunk_of Ls3.s49 (by omega) (by omega)
  by_cases h50 : s < 408
  · exact chunk_of Ls3.s50 (by omega) (by omega)
  by_cases h51 : s < 416
  · exact chunk_of Ls3.s51 (by omega) (by omega)
  by_cases h52 : s < 424
  · exact chunk_of Ls3.s52 (by omega) (by omega)
  exact chunk_of Ls3.s53 (by omega) (by omega)

theorem law_short {s : ByteArray} {n : Nat} {pv : V} {z : Int} (hs : s.size ≤ 16) (hn : n ≤ 100) (hl : Truths n pv) (hz : 0 ≤ z ∧ z < 256) {W : World} {x : Value} (hx : VR (viewS W s) pv x) : Goes #[.int .u8 z, x, .string s] W := by
  have hg : z % 4 = 0 ∨ z % 4 = 1 ∨ z % 4 = 2 ∨ z % 4 = 3 := by omega
  rcases hg with g | g | g | g
  · obtain ⟨sys, hend⟩ := sys_of (a := 4) (M := 427) (hS := Ls0.hS) (kd := Ls0.kd) (nA := Ls0.nA) (nB := Ls0.nB) (mu := Ls0.mu) (de := Ls0.de) (fun s h => List.all_eq_true.1 Ls0.f s (List.mem_range.2 h)) Ls0.all
    exact ls_calls (.cons (modV_ok hz.1 hz.2 (by decide) g) (.cons hx (.cons (.syms rfl (Nat.zero_le _) hs) .nil))) rfl (ls_all hs hn hl Ls0.p Ls0.q sys (by decide) rfl (slotLen_some Ls0.t) hend)
  · obtain ⟨sys, hend⟩ := sys_of (a := 2) (M := 432) (hS := Ls1.hS) (kd := Ls1.kd) (nA := Ls1.nA) (nB := Ls1.nB) (mu := Ls1.mu) (de := Ls1.de) (fun s h => List.all_eq_true.1 Ls1.f s (List.mem_range.2 h)) Ls1.all
    exact ls_calls (.cons (modV_ok hz.1 hz.2 (by decide) g) (.cons hx (.cons (.syms rfl (Nat.zero_le _) hs) .nil))) rfl (ls_all hs hn hl Ls1.p Ls1.q sys (by decide) rfl (slotLen_some Ls1.t) hend)
  · obtain ⟨sys, hend⟩ := sys_of (a := 4) (M := 427) (hS := Ls2.hS) (kd := Ls2.kd) (nA := Ls2.nA) (nB := Ls2.nB) (mu := Ls2.mu) (de := Ls2.de) (fun s h => List.all_eq_true.1 Ls2.f s (List.mem_range.2 h)) Ls2.all
    exact ls_calls (.cons (modV_ok hz.1 hz.2 (by decide) g) (.cons hx (.cons (.syms rfl (Nat.zero_le _) hs) .nil))) rfl (ls_all hs hn hl Ls2.p Ls2.q sys (by decide) rfl (slotLen_some Ls2.t) hend)
  · obtain ⟨sys, hend⟩ := sys_of (a := 3) (M := 427) (hS := Ls3.hS) (kd := Ls3.kd) (nA := Ls3.nA) (nB := Ls3.nB) (mu := Ls3.mu) (de := Ls3.de) (fun s h => List.all_eq_true.1 Ls3.f s (List.mem_range.2 h)) Ls3.all
    exact ls_calls (.cons (modV_ok hz.1 hz.2 (by decide) g) (.cons hx (.cons (.syms rfl (Nat.zero_le _) hs) .nil))) rfl (ls_all hs hn hl Ls3.p Ls3.q sys (by decide) rfl (slotLen_some Ls3.t) hend)

theorem law_calls {s : ByteArray} {n : Nat} {pv : V} {z : Int} (hs : s.size ≤ 9223372036854775807) (hl : Truths n pv) (hz : 0 ≤ z ∧ z < 256) {W : World} {x : Value} (hx : VR (viewS W s) pv x) : Goes #[.int .u8 z, x, .string s] W := by
  by_cases hn : n ≤ 100
  · by_cases h16 : s.size ≤ 16
    · exact law_short h16 hn hl hz hx
    · exact ls_calls (.cons (.int .u8 z) (.cons hx (.cons (.syms rfl (by omega) hs) .nil))) rfl (ls_long (lo := 17) hl long_ok (.inr ⟨hn, rfl⟩))
  · exact ls_calls (.cons (.int .u8 z) (.cons hx (.cons (.syms rfl (Nat.zero_le _) hs) .nil))) rfl (ls_long (lo := 0) hl long_ok (.inl (by omega)))

end Go.PE
