/- GroupAgain's checkpoints (group 1). -/
import Derived.Test.YtcgjkbnijnefjaaGreatDoorAgZ
namespace Go.PE.Ag1
open Go.Proofs
set_option maxRecDepth 100000
noncomputable section
def ac : List V := [(qi 2), (qi 3), (qi 0)]
def pA1 : List Nat := [283, 3, 1, 2, 71, 43, 136, 108, 225, 173, 282, 262, 287, 290, 294, 297, 301, 857, 304, 870, 357, 360, 364, 367, 886, 812]
def eA1 : Env := upE [(10, (qw 1)), (12, (.ptr 25 0 0 6)), (46, u), (47, u), (48, u), (49, u), (50, u), (51, u), (52, u), (53, u), (54, u), (56, u), (57, u), (58, u)] bA
def hA1 : Heap := (bx [(.ptr 1 0 0 7), (qb 1), (pg 12), (pg 14), (pg 16), (pg 20), (pg 22), (sm 24 0 2), .nils]) :: (hH ++ [bx (patch [(1, (qi 1)), (0, (qb 1)), (0, (qw 1))] z0), bx ac, bx (patch [(0, (qi 1)), (1, (qb 1)), (50, (sa 15))] z0), bx ac, bx (patch [(0, (qi 2)), (0, (qi 4)), (0, (qb 1)), (0, (qw 1)), (47, (se 17 1)), (1, (sa 18)), (0, qt), (0, qt), (0, qt), (0, qt), (1, qt), (1, qt), (0, qt), (246, (.slice 19 0 0 1 15 none))] z0), bx (ld 4 1), bx ac, bx ((ld 4 1) ++ [(qb 0), qs, qf, qf, qt, qf, qf]), bx (patch [(0, (qi 3)), (0, (qi 1)), (0, (qb 1)), (0, (qw 1)), (49, (sa 21))] z0), bx ac, bx (patch [(0, (qi 4)), (1, (qb 1)), (50, (sa 23))] z0), bx ac, bx (patch [(1, (qb 12)), (0, (qb 10)), (9, (qb 1)), (106, (qb 4))] zb ++ patch [(1, (qb 12)), (0, (qb 13)), (9, (qb 1)), (106, (qb 4))] zb), bx [(qb 1), (qw 1), (qb 1), (qb 4), (qb 0), qn]])
def eP1 : Env := upE [(10, (qw 1)), (12, (.ptr 25 0 0 6)), (46, u), (47, u), (48, u), (49, u), (50, u), (51, u), (52, u), (53, u), (54, u), (56, u), (57, u), (58, u)] bP
def hP1 : Heap := upH [(0, bx [(.ptr 1 0 0 7), (qb 1), (pg 12), (pg 14), (pg 16), (pg 20), (pg 22), (.slice 24 0 262 0 131 none), .nils])] hA1
def qC1 (a b c d : Nat) : List Nat := rg 16 ++ [a, b, c, 20, 21, 22, 23, d, 25]
def pC1 (r : Nat) : List Nat := if r = 0 then qC1 36 479 39 687 else if r = 1 then qC1 36 404 39 659 else if r = 2 then qC1 36 329 39 631 else if r = 4 then qC1 91 479 94 687 else if r = 5 then qC1 91 404 94 659 else if r = 8 then qC1 146 479 149 687 else qC1 116 410 119 665
def eC1 : Env := upE [(10, (qw 1)), (12, (.ptr 24 0 0 6)), (46, u), (47, u), (48, u), (49, u), (50, u), (51, u), (52, u), (53, u), (54, u), (56, u), (57, u), (58, u)] bC
def hC1 : Heap := (bx [(.ptr 1 0 0 7), (qb 1), (pg 12), (pg 14), (pg 16), (pg 19), (pg 21), (sm 23 0 1), .nils]) :: (hH ++ [bx (patch [(1, (qi 1)), (0, (qb 1))] zw), bx ac, bx (patch [(0, (qi 1)), (1, (qb 1)), (50, (sa 15))] zw), bx ac, bx (patch [(0, (qi 2)), (0, (qi 4)), (0, (qb 1)), (0, (qw 1)), (47, (.slice 17 0 0 1 8 (some 1))), (1, (sa 18)), (0, qt), (0, qt), (0, qt), (0, qt), (1, qt), (1, qt), (0, qt)] z0), bx (ld 4 1), bx ac, bx (patch [(0, (qi 3)), (0, (qi 1)), (0, (qb 1)), (50, (sa 20))] zw), bx ac, bx (patch [(0, (qi 4)), (1, (qb 1)), (50, (sa 22))] zw), bx ac, bx (patch [(1, (qb 12)), (124, (qb 4))] zc), bx [(qb 1), (qw 1), (qb 1), (qb 4), (qb 0), qn]])
def pZ1 : List Nat := [0, 1, 6, 7, 16, 17, 24]
def eZ1 : Env := upE [(10, (qw 1)), (46, u), (47, u), (48, u), (49, u), (50, u), (51, u), (52, u), (53, u), (54, u), (56, u), (57, u), (58, u)] bZ
def hZ1 : Heap := [bx [(.ptr 1 0 0 7), (qb 1), .top, .top, (pg 4), .top, .top, .nils, .top], bx [.top, .top, (qw 1), .top, (.slice 2 0 0 1 2 none), .top, .top], bx [(qw 1), (.slice 3 2 0 3 1 none)], .cells ac 2 0, bx (patch [(58, qf), (0, qt), (3, qf)] zz), bx (ld 4 1), bx [(qb 1), (qw 1), (qb 1), (qb 4), (qb 0), qn]]
def A1 : Bool := goA 1 0 pA1 eA1 hA1
def B1 (r : Nat) : Bool := goB r eA1 hA1 (pC1 r) eC1 hC1
def Q1 : Bool := goQs eA1 hA1 26 eP1 hP1
def P1 : Bool := goP eP1 hP1 (pC1 2) eC1 hC1
def C1 (_ : Nat) : Bool := goC eC1 hC1 pZ1 eZ1 hZ1
def Z1 (_ : Nat) : Bool := goZ eZ1 hZ1
def pA2 : List Nat := [283, 3, 1, 2, 71, 43, 136, 108, 225, 173, 282, 262, 287, 927, 290, 294, 297, 301, 1103, 304, 869, 357, 982, 360, 364, 367, 1132, 1055, 1057]
def eA2 : Env := bA
def hA2 : Heap := (bx [(.ptr 1 0 0 7), (qb 1), (pg 12), (pg 15), (pg 17), (pg 21), (pg 24), (sm 26 0 2), (sm 27 0 1)]) :: (hH ++ [bx (patch [(1, (qi 1)), (0, (qb 1)), (0, (qw 1)), (47, (se 13 1)), (1, (sa 14))] z0), bx (lg 4 1 1), bx ac, bx (patch [(0, (qi 1)), (1, (qb 1)), (50, (sa 16))] z0), bx ac, bx (patch [(0, (qi 2)), (0, (qi 4)), (0, (qb 1)), (0, (qw 1)), (47, (se 18 2)), (1, (sa 19)), (0, qt), (0, qt), (0, qt), (0, qt), (1, qt), (1, qt), (0, qt), (246, (.slice 20 1 15 1 15 none))] z0), bx (lg 4 1 1 ++ (ld 4 2)), bx ac, .cells (wl 4 1 1 [(qb 0), qs, qt, qf, qt, qt, qf] ++ (ld 4 2) ++ [(qb 0), qs, qf, qf, qt, qf, qf]) 1 0, bx (patch [(0, (qi 3)), (0, (qi 1)), (0, (qb 1)), (0, (qw 1)), (47, (se 22 1)), (1, (sa 23))] z0), bx (lg 4 1 1), bx ac, bx (patch [(0, (qi 4)), (1, (qb 1)), (50, (sa 25))] z0), bx ac, bx (patch [(1, (qb 12)), (0, (qb 10)), (9, (qb 1)), (102, (qw 2)), (1, (qw 2)), (1, (qb 4))] zb ++ patch [(1, (qb 12)), (0, (qb 13)), (9, (qb 1)), (102, (qw 2)), (1, (qw 2)), (1, (qb 4))] zb), bx zt, bx [(qb 1), (qw 2), (qb 1), (qb 4), (qb 0), qn]])
def eP2 : Env := bP
def hP2 : Heap := upH [(0, bx [(.ptr 1 0 0 7), (qb 1), (pg 12), (pg 15), (pg 17), (pg 21), (pg 24), (.slice 26 0 262 0 131 none), (sm 27 0 1)])] hA2
def qC2 (a b c d : Nat) : List Nat := rg 13 ++ [14, 15, 16, a, b, c, 21, 23, 24, 25, d, 27, 28]
def pC2 (r : Nat) : List Nat := if r = 0 then qC2 39 482 42 691 else if r = 1 then qC2 39 407 42 674 else if r = 2 then qC2 39 332 42 657 else if r = 4 then qC2 94 482 97 691 else if r = 5 then qC2 94 407 97 674 else if r = 8 then qC2 149 482 152 691 else qC2 119 413 122 680
def eC2 : Env := bC
def hC2 : Heap := (bx [(.ptr 1 0 0 7), (qb 1), (pg 12), (pg 14), (pg 16), (pg 19), (pg 21), (sm 23 0 1), (sm 24 0 1)]) :: (hH ++ [bx (patch [(1, (qi 1)), (0, (qb 1))] zw), bx ac, bx (patch [(0, (qi 1)), (1, (qb 1)), (50, (sa 15))] zw), bx ac, bx (patch [(0, (qi 2)), (0, (qi 4)), (0, (qb 1)), (0, (qw 1)), (47, (.slice 17 0 0 2 8 (some 2))), (1, (sa 18)), (0, qt), (0, qt), (0, qt), (0, qt), (1, qt), (1, qt), (0, qt)] z0), bx (lg 4 1 1 ++ (ld 4 2)), bx ac, bx (patch [(0, (qi 3)), (0, (qi 1)), (0, (qb 1)), (50, (sa 20))] zw), bx ac, bx (patch [(0, (qi 4)), (1, (qb 1)), (50, (sa 22))] zw), bx ac, bx (patch [(1, (qb 12)), (122, (qw 2)), (1, (qb 4))] zc), bx zt, bx [(qb 1), (qw 2), (qb 1), (qb 4), (qb 0), qn]])
def pZ2 : List Nat := [0, 1, 6, 7, 16, 17, 25]
def eZ2 : Env := bZ
def hZ2 : Heap := [bx [(.ptr 1 0 0 7), (qb 1), .top, .top, (pg 4), .top, .top, .nils, .top], bx [.top, .top, (qw 1), .top, (.slice 2 0 0 1 2 none), .top, .top], bx [(qw 1), (.slice 3 2 0 3 1 none)], .cells ac 2 0, bx (patch [(51, (.slice 5 0 0 2 8 (some 2))), (6, qf), (0, qt), (3, qf)] zz), bx (lg 4 1 1 ++ (ld 4 2)), bx [(qb 1), (qw 2), (qb 1), (qb 4), (qb 0), qn]]
def A2 : Bool := goA 1 1 pA2 eA2 hA2
def B2 (r : Nat) : Bool := goB r eA2 hA2 (pC2 r) eC2 hC2
def Q2 : Bool := goQs eA2 hA2 29 eP2 hP2
def P2 : Bool := goP eP2 hP2 (pC2 2) eC2 hC2
def C2 (_ : Nat) : Bool := goC eC2 hC2 pZ2 eZ2 hZ2
def Z2 (_ : Nat) : Bool := goZ eZ2 hZ2
def pA3 : List Nat := [283, 3, 1, 2, 71, 43, 136, 108, 225, 173, 282, 262, 287, 1173, 290, 294, 297, 301, 1349, 304, 869, 357, 1228, 360, 364, 367, 1379, 1055, 1302]
def eA3 : Env := upE [(10, (qw 3))] bA
def hA3 : Heap := (bx [(.ptr 1 0 0 7), (qb 1), (pg 12), (pg 15), (pg 17), (pg 21), (pg 24), (sm 26 0 2), (sm 27 1 2)]) :: (hH ++ [bx (patch [(1, (qi 1)), (0, (qb 1)), (0, (qw 1)), (47, (se 13 2)), (1, (sa 14))] z0), bx (lg 4 1 2), bx ac, bx (patch [(0, (qi 1)), (1, (qb 1)), (50, (sa 16))] z0), bx ac, bx (patch [(0, (qi 2)), (0, (qi 4)), (0, (qb 1)), (0, (qw 1)), (47, (se 18 3)), (1, (sa 19)), (0, qt), (0, qt), (0, qt), (0, qt), (1, qt), (1, qt), (0, qt), (246, (.slice 20 2 30 1 15 none))] z0), bx (lg 4 1 2 ++ (ld 4 3)), bx ac, .cells (wl 4 1 2 [(qb 0), qs, qt, qf, qt, qt, qf] ++ (ld 4 3) ++ [(qb 0), qs, qf, qf, qt, qf, qf]) 2 1, bx (patch [(0, (qi 3)), (0, (qi 1)), (0, (qb 1)), (0, (qw 1)), (47, (se 22 2)), (1, (sa 23))] z0), bx (lg 4 1 2), bx ac, bx (patch [(0, (qi 4)), (1, (qb 1)), (50, (sa 25))] z0), bx ac, bx (patch [(1, (qb 12)), (0, (qb 10)), (9, (qb 1)), (102, (qw 3)), (1, (qw 3)), (1, (qb 4))] zb ++ patch [(1, (qb 12)), (0, (qb 13)), (9, (qb 1)), (102, (qw 3)), (1, (qw 3)), (1, (qb 4))] zb), .cells (repeatL zt 2) 1 0, bx [(qb 1), (qw 3), (qb 1), (qb 4), (qb 0), qn]])
def eP3 : Env := upE [(10, (qw 3))] bP
def hP3 : Heap := upH [(0, bx [(.ptr 1 0 0 7), (qb 1), (pg 12), (pg 15), (pg 17), (pg 21), (pg 24), (.slice 26 0 262 0 131 none), (sm 27 1 2)])] hA3
def qC3 (a b c d : Nat) : List Nat := rg 13 ++ [14, 15, 16, a, b, c, 21, 23, 24, 25, d, 27, 28]
def pC3 (r : Nat) : List Nat := if r = 0 then qC3 39 482 42 692 else if r = 1 then qC3 39 407 42 685 else if r = 2 then qC3 39 332 42 678 else if r = 4 then qC3 94 482 97 692 else if r = 5 then qC3 94 407 97 685 else if r = 8 then qC3 149 482 152 692 else qC3 119 413 122 691
def eC3 : Env := upE [(10, (qw 3))] bC
def hC3 : Heap := (bx [(.ptr 1 0 0 7), (qb 1), (pg 12), (pg 14), (pg 16), (pg 19), (pg 21), (sm 23 0 1), (sm 24 1 2)]) :: (hH ++ [bx (patch [(1, (qi 1)), (0, (qb 1))] zw), bx ac, bx (patch [(0, (qi 1)), (1, (qb 1)), (50, (sa 15))] zw), bx ac, bx (patch [(0, (qi 2)), (0, (qi 4)), (0, (qb 1)), (0, (qw 1)), (47, (.slice 17 0 0 3 8 (some 3))), (1, (sa 18)), (0, qt), (0, qt), (0, qt), (0, qt), (1, qt), (1, qt), (0, qt)] z0), bx (lg 4 1 2 ++ (ld 4 3)), bx ac, bx (patch [(0, (qi 3)), (0, (qi 1)), (0, (qb 1)), (50, (sa 20))] zw), bx ac, bx (patch [(0, (qi 4)), (1, (qb 1)), (50, (sa 22))] zw), bx ac, bx (patch [(1, (qb 12)), (122, (qw 3)), (1, (qb 4))] zc), .cells (repeatL zt 2) 1 0, bx [(qb 1), (qw 3), (qb 1), (qb 4), (qb 0), qn]])
def pZ3 : List Nat := [0, 1, 6, 7, 16, 17, 25]
def eZ3 : Env := upE [(10, (qw 3))] bZ
def hZ3 : Heap := [bx [(.ptr 1 0 0 7), (qb 1), .top, .top, (pg 4), .top, .top, .nils, .top], bx [.top, .top, (qw 1), .top, (.slice 2 0 0 1 2 none), .top, .top], bx [(qw 1), (.slice 3 2 0 3 1 none)], .cells ac 2 0, bx (patch [(51, (.slice 5 0 0 3 8 (some 3))), (6, qf), (0, qt), (3, qf)] zz), bx (lg 4 1 2 ++ (ld 4 3)), bx [(qb 1), (qw 3), (qb 1), (qb 4), (qb 0), qn]]
def A3 : Bool := goA 1 2 pA3 eA3 hA3
def B3 (r : Nat) : Bool := goB r eA3 hA3 (pC3 r) eC3 hC3
def Q3 : Bool := goQs eA3 hA3 29 eP3 hP3
def P3 : Bool := goP eP3 hP3 (pC3 2) eC3 hC3
def C3 (_ : Nat) : Bool := goC eC3 hC3 pZ3 eZ3 hZ3
def Z3 (_ : Nat) : Bool := goZ eZ3 hZ3
def pA4 : List Nat := [283, 3, 1, 2, 71, 43, 136, 108, 225, 173, 282, 262, 287, 1420, 290, 294, 297, 301, 1597, 304, 869, 357, 1475, 360, 364, 367, 1628, 1055, 1549]
def eA4 : Env := upE [(10, (qw 4))] bA
def hA4 : Heap := (bx [(.ptr 1 0 0 7), (qb 1), (pg 12), (pg 15), (pg 17), (pg 21), (pg 24), (sm 26 0 2), (sm 27 2 3)]) :: (hH ++ [bx (patch [(1, (qi 1)), (0, (qb 1)), (0, (qw 1)), (47, (se 13 3)), (1, (sa 14))] z0), bx (lg 4 1 3), bx ac, bx (patch [(0, (qi 1)), (1, (qb 1)), (50, (sa 16))] z0), bx ac, bx (patch [(0, (qi 2)), (0, (qi 4)), (0, (qb 1)), (0, (qw 1)), (47, (se 18 4)), (1, (sa 19)), (0, qt), (0, qt), (0, qt), (0, qt), (1, qt), (1, qt), (0, qt), (246, (.slice 20 3 45 1 15 none))] z0), bx (lg 4 1 3 ++ (ld 4 4)), bx ac, .cells (wl 4 1 3 [(qb 0), qs, qt, qf, qt, qt, qf] ++ (ld 4 4) ++ [(qb 0), qs, qf, qf, qt, qf, qf]) 3 2, bx (patch [(0, (qi 3)), (0, (qi 1)), (0, (qb 1)), (0, (qw 1)), (47, (se 22 3)), (1, (sa 23))] z0), bx (lg 4 1 3), bx ac, bx (patch [(0, (qi 4)), (1, (qb 1)), (50, (sa 25))] z0), bx ac, bx (patch [(1, (qb 12)), (0, (qb 10)), (9, (qb 1)), (102, (qw 4)), (1, (qw 4)), (1, (qb 4))] zb ++ patch [(1, (qb 12)), (0, (qb 13)), (9, (qb 1)), (102, (qw 4)), (1, (qw 4)), (1, (qb 4))] zb), .cells (repeatL zt 3) 2 0, bx [(qb 1), (qw 4), (qb 1), (qb 4), (qb 0), qn]])
def eP4 : Env := upE [(10, (qw 4))] bP
def hP4 : Heap := upH [(0, bx [(.ptr 1 0 0 7), (qb 1), (pg 12), (pg 15), (pg 17), (pg 21), (pg 24), (.slice 26 0 262 0 131 none), (sm 27 2 3)])] hA4
def qC4 (a b c d : Nat) : List Nat := rg 13 ++ [14, 15, 16, a, b, c, 21, 23, 24, 25, d, 27, 28]
def pC4 (r : Nat) : List Nat := if r = 0 then qC4 39 482 42 693 else if r = 1 then qC4 39 407 42 696 else if r = 2 then qC4 39 332 42 699 else if r = 4 then qC4 94 482 97 693 else if r = 5 then qC4 94 407 97 696 else if r = 8 then qC4 149 482 152 693 else qC4 119 413 122 702
def eC4 : Env := upE [(10, (qw 4))] bC
def hC4 : Heap := (bx [(.ptr 1 0 0 7), (qb 1), (pg 12), (pg 14), (pg 16), (pg 19), (pg 21), (sm 23 0 1), (sm 24 2 3)]) :: (hH ++ [bx (patch [(1, (qi 1)), (0, (qb 1))] zw), bx ac, bx (patch [(0, (qi 1)), (1, (qb 1)), (50, (sa 15))] zw), bx ac, bx (patch [(0, (qi 2)), (0, (qi 4)), (0, (qb 1)), (0, (qw 1)), (47, (.slice 17 0 0 4 8 (some 4))), (1, (sa 18)), (0, qt), (0, qt), (0, qt), (0, qt), (1, qt), (1, qt), (0, qt)] z0), bx (lg 4 1 3 ++ (ld 4 4)), bx ac, bx (patch [(0, (qi 3)), (0, (qi 1)), (0, (qb 1)), (50, (sa 20))] zw), bx ac, bx (patch [(0, (qi 4)), (1, (qb 1)), (50, (sa 22))] zw), bx ac, bx (patch [(1, (qb 12)), (122, (qw 4)), (1, (qb 4))] zc), .cells (repeatL zt 3) 2 0, bx [(qb 1), (qw 4), (qb 1), (qb 4), (qb 0), qn]])
def pZ4 : List Nat := [0, 1, 6, 7, 16, 17, 25]
def eZ4 : Env := upE [(10, (qw 4))] bZ
def hZ4 : Heap := [bx [(.ptr 1 0 0 7), (qb 1), .top, .top, (pg 4), .top, .top, .nils, .top], bx [.top, .top, (qw 1), .top, (.slice 2 0 0 1 2 none), .top, .top], bx [(qw 1), (.slice 3 2 0 3 1 none)], .cells ac 2 0, bx (patch [(51, (.slice 5 0 0 4 8 (some 4))), (6, qf), (0, qt), (3, qf)] zz), bx (lg 4 1 3 ++ (ld 4 4)), bx [(qb 1), (qw 4), (qb 1), (qb 4), (qb 0), qn]]
def A4 : Bool := goA 1 3 pA4 eA4 hA4
def B4 (r : Nat) : Bool := goB r eA4 hA4 (pC4 r) eC4 hC4
def Q4 : Bool := goQs eA4 hA4 29 eP4 hP4
def P4 : Bool := goP eP4 hP4 (pC4 2) eC4 hC4
def C4 (_ : Nat) : Bool := goC eC4 hC4 pZ4 eZ4 hZ4
def Z4 (_ : Nat) : Bool := goZ eZ4 hZ4
def pA5 : List Nat := [283, 3, 1, 2, 71, 43, 136, 108, 225, 173, 282, 262, 287, 1669, 290, 294, 297, 301, 1847, 304, 869, 357, 1724, 360, 364, 367, 1879, 1055, 1798]
def eA5 : Env := upE [(10, (qw 5))] bA
def hA5 : Heap := (bx [(.ptr 1 0 0 7), (qb 1), (pg 12), (pg 15), (pg 17), (pg 21), (pg 24), (sm 26 0 2), (sm 27 3 4)]) :: (hH ++ [bx (patch [(1, (qi 1)), (0, (qb 1)), (0, (qw 1)), (47, (se 13 4)), (1, (sa 14))] z0), bx (lg 4 1 4), bx ac, bx (patch [(0, (qi 1)), (1, (qb 1)), (50, (sa 16))] z0), bx ac, bx (patch [(0, (qi 2)), (0, (qi 4)), (0, (qb 1)), (0, (qw 1)), (47, (se 18 5)), (1, (sa 19)), (0, qt), (0, qt), (0, qt), (0, qt), (1, qt), (1, qt), (0, qt), (246, (.slice 20 4 60 1 15 none))] z0), bx (lg 4 1 4 ++ (ld 4 5)), bx ac, .cells (wl 4 1 4 [(qb 0), qs, qt, qf, qt, qt, qf] ++ (ld 4 5) ++ [(qb 0), qs, qf, qf, qt, qf, qf]) 4 3, bx (patch [(0, (qi 3)), (0, (qi 1)), (0, (qb 1)), (0, (qw 1)), (47, (se 22 4)), (1, (sa 23))] z0), bx (lg 4 1 4), bx ac, bx (patch [(0, (qi 4)), (1, (qb 1)), (50, (sa 25))] z0), bx ac, bx (patch [(1, (qb 12)), (0, (qb 10)), (9, (qb 1)), (102, (qw 5)), (1, (qw 5)), (1, (qb 4))] zb ++ patch [(1, (qb 12)), (0, (qb 13)), (9, (qb 1)), (102, (qw 5)), (1, (qw 5)), (1, (qb 4))] zb), .cells (repeatL zt 4) 3 0, bx [(qb 1), (qw 5), (qb 1), (qb 4), (qb 0), qn]])
def eP5 : Env := upE [(10, (qw 5))] bP
def hP5 : Heap := upH [(0, bx [(.ptr 1 0 0 7), (qb 1), (pg 12), (pg 15), (pg 17), (pg 21), (pg 24), (.slice 26 0 262 0 131 none), (sm 27 3 4)])] hA5
def qC5 (a b c d : Nat) : List Nat := rg 13 ++ [14, 15, 16, a, b, c, 21, 23, 24, 25, d, 27, 28]
def pC5 (r : Nat) : List Nat := if r = 0 then qC5 39 482 42 694 else if r = 1 then qC5 39 407 42 707 else if r = 2 then qC5 39 332 42 720 else if r = 4 then qC5 94 482 97 694 else if r = 5 then qC5 94 407 97 707 else if r = 8 then qC5 149 482 152 694 else qC5 119 413 122 713
def eC5 : Env := upE [(10, (qw 5))] bC
def hC5 : Heap := (bx [(.ptr 1 0 0 7), (qb 1), (pg 12), (pg 14), (pg 16), (pg 19), (pg 21), (sm 23 0 1), (sm 24 3 4)]) :: (hH ++ [bx (patch [(1, (qi 1)), (0, (qb 1))] zw), bx ac, bx (patch [(0, (qi 1)), (1, (qb 1)), (50, (sa 15))] zw), bx ac, bx (patch [(0, (qi 2)), (0, (qi 4)), (0, (qb 1)), (0, (qw 1)), (47, (.slice 17 0 0 5 8 (some 5))), (1, (sa 18)), (0, qt), (0, qt), (0, qt), (0, qt), (1, qt), (1, qt), (0, qt)] z0), bx (lg 4 1 4 ++ (ld 4 5)), bx ac, bx (patch [(0, (qi 3)), (0, (qi 1)), (0, (qb 1)), (50, (sa 20))] zw), bx ac, bx (patch [(0, (qi 4)), (1, (qb 1)), (50, (sa 22))] zw), bx ac, bx (patch [(1, (qb 12)), (122, (qw 5)), (1, (qb 4))] zc), .cells (repeatL zt 4) 3 0, bx [(qb 1), (qw 5), (qb 1), (qb 4), (qb 0), qn]])
def pZ5 : List Nat := [0, 1, 6, 7, 16, 17, 25]
def eZ5 : Env := upE [(10, (qw 5))] bZ
def hZ5 : Heap := [bx [(.ptr 1 0 0 7), (qb 1), .top, .top, (pg 4), .top, .top, .nils, .top], bx [.top, .top, (qw 1), .top, (.slice 2 0 0 1 2 none), .top, .top], bx [(qw 1), (.slice 3 2 0 3 1 none)], .cells ac 2 0, bx (patch [(51, (.slice 5 0 0 5 8 (some 5))), (6, qf), (0, qt), (3, qf)] zz), bx (lg 4 1 4 ++ (ld 4 5)), bx [(qb 1), (qw 5), (qb 1), (qb 4), (qb 0), qn]]
def A5 : Bool := goA 1 4 pA5 eA5 hA5
def B5 (r : Nat) : Bool := goB r eA5 hA5 (pC5 r) eC5 hC5
def Q5 : Bool := goQs eA5 hA5 29 eP5 hP5
def P5 : Bool := goP eP5 hP5 (pC5 2) eC5 hC5
def C5 (_ : Nat) : Bool := goC eC5 hC5 pZ5 eZ5 hZ5
def Z5 (_ : Nat) : Bool := goZ eZ5 hZ5
def pA6 : List Nat := [283, 3, 1, 2, 71, 43, 136, 108, 225, 173, 282, 262, 287, 1920, 290, 294, 297, 301, 2099, 304, 869, 357, 1975, 360, 364, 367, 2132, 1055, 2049]
def eA6 : Env := upE [(10, (qw 6))] bA
def hA6 : Heap := (bx [(.ptr 1 0 0 7), (qb 1), (pg 12), (pg 15), (pg 17), (pg 21), (pg 24), (sm 26 0 2), (sm 27 4 5)]) :: (hH ++ [bx (patch [(1, (qi 1)), (0, (qb 1)), (0, (qw 1)), (47, (se 13 5)), (1, (sa 14))] z0), bx (lg 4 1 5), bx ac, bx (patch [(0, (qi 1)), (1, (qb 1)), (50, (sa 16))] z0), bx ac, bx (patch [(0, (qi 2)), (0, (qi 4)), (0, (qb 1)), (0, (qw 1)), (47, (se 18 6)), (1, (sa 19)), (0, qt), (0, qt), (0, qt), (0, qt), (1, qt), (1, qt), (0, qt), (246, (.slice 20 5 75 1 15 none))] z0), bx (lg 4 1 5 ++ (ld 4 6)), bx ac, .cells (wl 4 1 5 [(qb 0), qs, qt, qf, qt, qt, qf] ++ (ld 4 6) ++ [(qb 0), qs, qf, qf, qt, qf, qf]) 5 4, bx (patch [(0, (qi 3)), (0, (qi 1)), (0, (qb 1)), (0, (qw 1)), (47, (se 22 5)), (1, (sa 23))] z0), bx (lg 4 1 5), bx ac, bx (patch [(0, (qi 4)), (1, (qb 1)), (50, (sa 25))] z0), bx ac, bx (patch [(1, (qb 12)), (0, (qb 10)), (9, (qb 1)), (102, (qw 6)), (1, (qw 6)), (1, (qb 4))] zb ++ patch [(1, (qb 12)), (0, (qb 13)), (9, (qb 1)), (102, (qw 6)), (1, (qw 6)), (1, (qb 4))] zb), .cells (repeatL zt 5) 4 0, bx [(qb 1), (qw 6), (qb 1), (qb 4), (qb 0), qn]])
def eP6 : Env := upE [(10, (qw 6))] bP
def hP6 : Heap := upH [(0, bx [(.ptr 1 0 0 7), (qb 1), (pg 12), (pg 15), (pg 17), (pg 21), (pg 24), (.slice 26 0 262 0 131 none), (sm 27 4 5)])] hA6
def qC6 (a b c d : Nat) : List Nat := rg 13 ++ [14, 15, 16, a, b, c, 21, 23, 24, 25, d, 27, 28]
def pC6 (r : Nat) : List Nat := if r = 0 then qC6 39 482 42 695 else if r = 1 then qC6 39 407 42 718 else if r = 2 then qC6 39 332 42 741 else if r = 4 then qC6 94 482 97 695 else if r = 5 then qC6 94 407 97 718 else if r = 8 then qC6 149 482 152 695 else qC6 119 413 122 724
def eC6 : Env := upE [(10, (qw 6))] bC
def hC6 : Heap := (bx [(.ptr 1 0 0 7), (qb 1), (pg 12), (pg 14), (pg 16), (pg 19), (pg 21), (sm 23 0 1), (sm 24 4 5)]) :: (hH ++ [bx (patch [(1, (qi 1)), (0, (qb 1))] zw), bx ac, bx (patch [(0, (qi 1)), (1, (qb 1)), (50, (sa 15))] zw), bx ac, bx (patch [(0, (qi 2)), (0, (qi 4)), (0, (qb 1)), (0, (qw 1)), (47, (.slice 17 0 0 6 8 (some 6))), (1, (sa 18)), (0, qt), (0, qt), (0, qt), (0, qt), (1, qt), (1, qt), (0, qt)] z0), bx (lg 4 1 5 ++ (ld 4 6)), bx ac, bx (patch [(0, (qi 3)), (0, (qi 1)), (0, (qb 1)), (50, (sa 20))] zw), bx ac, bx (patch [(0, (qi 4)), (1, (qb 1)), (50, (sa 22))] zw), bx ac, bx (patch [(1, (qb 12)), (122, (qw 6)), (1, (qb 4))] zc), .cells (repeatL zt 5) 4 0, bx [(qb 1), (qw 6), (qb 1), (qb 4), (qb 0), qn]])
def pZ6 : List Nat := [0, 1, 6, 7, 16, 17, 25]
def eZ6 : Env := upE [(10, (qw 6))] bZ
def hZ6 : Heap := [bx [(.ptr 1 0 0 7), (qb 1), .top, .top, (pg 4), .top, .top, .nils, .top], bx [.top, .top, (qw 1), .top, (.slice 2 0 0 1 2 none), .top, .top], bx [(qw 1), (.slice 3 2 0 3 1 none)], .cells ac 2 0, bx (patch [(51, (.slice 5 0 0 6 8 (some 6))), (6, qf), (0, qt), (3, qf)] zz), bx (lg 4 1 5 ++ (ld 4 6)), bx [(qb 1), (qw 6), (qb 1), (qb 4), (qb 0), qn]]
def A6 : Bool := goA 1 5 pA6 eA6 hA6
def B6 (r : Nat) : Bool := goB r eA6 hA6 (pC6 r) eC6 hC6
def Q6 : Bool := goQs eA6 hA6 29 eP6 hP6
def P6 : Bool := goP eP6 hP6 (pC6 2) eC6 hC6
def C6 (_ : Nat) : Bool := goC eC6 hC6 pZ6 eZ6 hZ6
def Z6 (_ : Nat) : Bool := goZ eZ6 hZ6
def pA7 : List Nat := [283, 3, 1, 2, 71, 43, 136, 108, 225, 173, 282, 262, 287, 2173, 290, 294, 297, 301, 2354, 304, 869, 357, 2228, 360, 364, 367, 2387, 1055, 2302]
def eA7 : Env := upE [(10, (qw 7))] bA
def hA7 : Heap := (bx [(.ptr 1 0 0 7), (qb 1), (pg 12), (pg 15), (pg 17), (pg 21), (pg 24), (sm 26 0 2), (sm 27 5 6)]) :: (hH ++ [bx (patch [(1, (qi 1)), (0, (qb 1)), (0, (qw 1)), (47, (se 13 6)), (1, (sa 14))] z0), bx (lg 4 1 6), bx ac, bx (patch [(0, (qi 1)), (1, (qb 1)), (50, (sa 16))] z0), bx ac, bx (patch [(0, (qi 2)), (0, (qi 4)), (0, (qb 1)), (0, (qw 1)), (20, qt), (0, qa), (8, (qw 1)), (8, (qw 1)), (0, (qw 1)), (6, (se 18 6)), (1, (sa 19)), (0, qt), (0, qt), (0, qt), (0, qt), (1, qt), (1, qt), (0, qt), (246, (.slice 20 6 90 1 15 none))] z0), bx (lg 4 2 5 ++ (ld 4 7)), bx ac, .cells (wl 4 1 6 [(qb 0), qs, qt, qf, qt, qt, qf] ++ (ld 4 7) ++ [(qb 0), qs, qf, qf, qt, qf, qf]) 6 5, bx (patch [(0, (qi 3)), (0, (qi 1)), (0, (qb 1)), (0, (qw 1)), (47, (se 22 6)), (1, (sa 23))] z0), bx (lg 4 1 6), bx ac, bx (patch [(0, (qi 4)), (1, (qb 1)), (50, (sa 25))] z0), bx ac, bx (patch [(1, (qb 12)), (0, (qb 10)), (9, (qb 1)), (102, (qw 7)), (1, (qw 7)), (1, (qb 4))] zb ++ patch [(1, (qb 12)), (0, (qb 13)), (9, (qb 1)), (102, (qw 7)), (1, (qw 7)), (1, (qb 4))] zb), .cells (repeatL zt 6) 5 0, bx [(qb 1), (qw 7), (qb 1), (qb 4), (qb 0), qn]])
def eP7 : Env := upE [(10, (qw 7))] bP
def hP7 : Heap := upH [(0, bx [(.ptr 1 0 0 7), (qb 1), (pg 12), (pg 15), (pg 17), (pg 21), (pg 24), (.slice 26 0 262 0 131 none), (sm 27 5 6)])] hA7
def qC7 (a b c d : Nat) : List Nat := rg 13 ++ [14, 15, 16, a, b, c, 21, 23, 24, 25, d, 27, 28]
def pC7 (r : Nat) : List Nat := if r = 0 then qC7 39 484 42 697 else if r = 1 then qC7 39 408 42 727 else if r = 2 then qC7 39 332 42 757 else if r = 4 then qC7 95 484 98 697 else if r = 5 then qC7 95 408 98 727 else if r = 8 then qC7 151 484 154 697 else qC7 120 414 123 733
def eC7 : Env := upE [(10, (qw 7)), (134, (.agg [.top, qf, .top, .top, .top, .top, qf, .top, .top, .top, .top, qf, .top, .top, .top, .top, qf, .top, .top, .top, .top, qt, .top, .top, .top, .top, qf, .top, .top, .top, .top, .top, .top, .top, .top, .top, .top, .top, .top, .top, .top, .top, .top, .top, .top, .top, .top, .top, .top]))] bC
def hC7 : Heap := (bx [(.ptr 1 0 0 7), (qb 1), (pg 12), (pg 14), (pg 16), (pg 19), (pg 21), (sm 23 0 1), (sm 24 5 6)]) :: (hH ++ [bx (patch [(1, (qi 1)), (0, (qb 1)), (21, qt)] zw), bx ac, bx (patch [(0, (qi 1)), (1, (qb 1)), (50, (sa 15))] zw), bx ac, bx (patch [(0, (qi 2)), (0, (qi 4)), (0, (qb 1)), (0, (qw 1)), (20, qt), (0, qa), (8, (qw 1)), (8, (qw 1)), (0, (qw 1)), (6, (.slice 17 0 0 6 8 (some 6))), (1, (sa 18)), (0, qt), (0, qt), (0, qt), (0, qt), (1, qt), (1, qt), (0, qt), (22, qt), (97, qt), (48, qt)] z0), bx (lg 4 2 5 ++ (ld 4 7)), bx ac, bx (patch [(0, (qi 3)), (0, (qi 1)), (0, (qb 1)), (21, qt), (28, (sa 20))] zw), bx ac, bx (patch [(0, (qi 4)), (1, (qb 1)), (50, (sa 22))] zw), bx ac, bx (patch [(1, (qb 12)), (122, (qw 7)), (1, (qb 4))] zc), .cells (repeatL zt 6) 5 0, bx [(qb 1), (qw 7), (qb 1), (qb 4), (qb 0), qn]])
def pZ7 : List Nat := [0, 1, 6, 7, 16, 17, 25]
def eZ7 : Env := upE [(10, (qw 7)), (134, (.agg [.top, qf, .top, .top, .top, .top, qf, .top, .top, .top, .top, qf, .top, .top, .top, .top, qf, .top, .top, .top, .top, qt, .top, .top, .top, .top, qf, .top, .top, .top, .top, .top, .top, .top, .top, .top, .top, .top, .top, .top, .top, .top, .top, .top, .top, .top, .top, .top, .top]))] bZ
def hZ7 : Heap := [bx [(.ptr 1 0 0 7), (qb 1), .top, .top, (pg 4), .top, .top, .nils, .top], bx [.top, .top, (qw 1), .top, (.slice 2 0 0 1 2 none), .top, .top], bx [(qw 1), (.slice 3 2 0 3 1 none)], .cells ac 2 0, bx (patch [(24, qt), (0, qa), (8, (qw 1)), (8, (qw 1)), (0, (qw 1)), (6, (.slice 5 0 0 6 8 (some 6))), (6, qf), (0, qt), (3, qf), (21, qt), (97, qt), (48, qt)] zz), bx (lg 4 2 5 ++ (ld 4 7)), bx [(qb 1), (qw 7), (qb 1), (qb 4), (qb 0), qn]]
def hC7b : Heap := upH [(16, .cells (upE [(85, qf)] (cellsAt hC7 16)) 0 0)] hC7
def hZ7b : Heap := upH [(4, .cells (upE [(85, qf)] (cellsAt hZ7 4)) 0 0)] hZ7
def hC7c : Heap := upH [(16, .cells (upE [(85, qf), (232, qf)] (cellsAt hC7 16)) 0 0)] hC7
def hZ7c : Heap := upH [(4, .cells (upE [(85, qf), (232, qf)] (cellsAt hZ7 4)) 0 0)] hZ7
def A7 : Bool := goA 1 6 pA7 eA7 hA7
def B7 (r : Nat) : Bool := goB r eA7 hA7 (pC7 r) eC7 (hv r hC7 hC7b hC7c)
def Q7 : Bool := goQs eA7 hA7 29 eP7 hP7
def P7 : Bool := goP eP7 hP7 (pC7 2) eC7 (hv 2 hC7 hC7b hC7c)
def C7 (r : Nat) : Bool := goC eC7 (hv r hC7 hC7b hC7c) pZ7 eZ7 (hv r hZ7 hZ7b hZ7c)
def Z7 (r : Nat) : Bool := goZ eZ7 (hv r hZ7 hZ7b hZ7c)
def pA8 : List Nat := [283, 3, 1, 2, 71, 43, 136, 108, 225, 173, 282, 262, 287, 2429, 290, 294, 297, 301, 2611, 304, 869, 357, 2485, 360, 364, 367, 2644, 1055, 2559]
def eA8 : Env := upE [(10, (qw 8))] bA
def hA8 : Heap := (bx [(.ptr 1 0 0 7), (qb 1), (pg 12), (pg 15), (pg 17), (pg 21), (pg 24), (sm 26 0 2), (sm 27 6 7)]) :: (hH ++ [bx (patch [(1, (qi 1)), (0, (qb 1)), (0, (qw 1)), (20, qt), (0, qa), (8, (qw 1)), (8, (qw 1)), (0, (qw 1)), (6, (se 13 6)), (1, (sa 14))] z0), bx (lg 4 2 6), bx ac, bx (patch [(0, (qi 1)), (1, (qb 1)), (50, (sa 16))] z0), bx ac, bx (patch [(0, (qi 2)), (0, (qi 4)), (0, (qb 1)), (0, (qw 1)), (20, qt), (0, qa), (8, (qw 2)), (8, (qw 1)), (0, (qw 2)), (6, (se 18 6)), (1, (sa 19)), (0, qt), (0, qt), (0, qt), (0, qt), (1, qt), (1, qt), (0, qt), (246, (.slice 20 7 105 1 15 none))] z0), bx (lg 4 3 5 ++ (ld 4 8)), bx ac, .cells (wl 4 1 7 [(qb 0), qs, qt, qf, qt, qt, qf] ++ (ld 4 8) ++ [(qb 0), qs, qf, qf, qt, qf, qf]) 7 6, bx (patch [(0, (qi 3)), (0, (qi 1)), (0, (qb 1)), (0, (qw 1)), (20, qt), (0, qa), (8, (qw 1)), (8, (qw 1)), (0, (qw 1)), (6, (se 22 6)), (1, (sa 23))] z0), bx (lg 4 2 6), bx ac, bx (patch [(0, (qi 4)), (1, (qb 1)), (50, (sa 25))] z0), bx ac, bx (patch [(1, (qb 12)), (0, (qb 10)), (9, (qb 1)), (102, (qw 8)), (1, (qw 8)), (1, (qb 4))] zb ++ patch [(1, (qb 12)), (0, (qb 13)), (9, (qb 1)), (102, (qw 8)), (1, (qw 8)), (1, (qb 4))] zb), .cells (repeatL zt 7) 6 0, bx [(qb 1), (qw 8), (qb 1), (qb 4), (qb 0), qn]])
def eP8 : Env := upE [(10, (qw 8))] bP
def hP8 : Heap := upH [(0, bx [(.ptr 1 0 0 7), (qb 1), (pg 12), (pg 15), (pg 17), (pg 21), (pg 24), (.slice 26 0 262 0 131 none), (sm 27 6 7)])] hA8
def qC8 (a b c d : Nat) : List Nat := rg 13 ++ [14, 15, 16, a, b, c, 21, 23, 24, 25, d, 27, 28]
def pC8 (r : Nat) : List Nat := if r = 0 then qC8 39 484 42 697 else if r = 1 then qC8 39 408 42 727 else if r = 2 then qC8 39 332 42 757 else if r = 4 then qC8 95 484 98 697 else if r = 5 then qC8 95 408 98 727 else if r = 8 then qC8 151 484 154 697 else qC8 120 414 123 733
def eC8 : Env := upE [(10, (qw 8)), (134, (.agg [.top, qf, .top, .top, .top, .top, qf, .top, .top, .top, .top, qf, .top, .top, .top, .top, qf, .top, .top, .top, .top, qt, .top, .top, .top, .top, qf, .top, .top, .top, .top, .top, .top, .top, .top, .top, .top, .top, .top, .top, .top, .top, .top, .top, .top, .top, .top, .top, .top]))] bC
def hC8 : Heap := (bx [(.ptr 1 0 0 7), (qb 1), (pg 12), (pg 14), (pg 16), (pg 19), (pg 21), (sm 23 0 1), (sm 24 6 7)]) :: (hH ++ [bx (patch [(1, (qi 1)), (0, (qb 1)), (21, qt)] zw), bx ac, bx (patch [(0, (qi 1)), (1, (qb 1)), (50, (sa 15))] zw), bx ac, bx (patch [(0, (qi 2)), (0, (qi 4)), (0, (qb 1)), (0, (qw 1)), (20, qt), (0, qa), (8, (qw 2)), (8, (qw 1)), (0, (qw 2)), (6, (.slice 17 0 0 6 8 (some 6))), (1, (sa 18)), (0, qt), (0, qt), (0, qt), (0, qt), (1, qt), (1, qt), (0, qt), (22, qt), (97, qt), (48, qt)] z0), bx (lg 4 3 5 ++ (ld 4 8)), bx ac, bx (patch [(0, (qi 3)), (0, (qi 1)), (0, (qb 1)), (21, qt), (28, (sa 20))] zw), bx ac, bx (patch [(0, (qi 4)), (1, (qb 1)), (50, (sa 22))] zw), bx ac, bx (patch [(1, (qb 12)), (122, (qw 8)), (1, (qb 4))] zc), .cells (repeatL zt 7) 6 0, bx [(qb 1), (qw 8), (qb 1), (qb 4), (qb 0), qn]])
def pZ8 : List Nat := [0, 1, 6, 7, 16, 17, 25]
def eZ8 : Env := upE [(10, (qw 8)), (134, (.agg [.top, qf, .top, .top, .top, .top, qf, .top, .top, .top, .top, qf, .top, .top, .top, .top, qf, .top, .top, .top, .top, qt, .top, .top, .top, .top, qf, .top, .top, .top, .top, .top, .top, .top, .top, .top, .top, .top, .top, .top, .top, .top, .top, .top, .top, .top, .top, .top, .top]))] bZ
def hZ8 : Heap := [bx [(.ptr 1 0 0 7), (qb 1), .top, .top, (pg 4), .top, .top, .nils, .top], bx [.top, .top, (qw 1), .top, (.slice 2 0 0 1 2 none), .top, .top], bx [(qw 1), (.slice 3 2 0 3 1 none)], .cells ac 2 0, bx (patch [(24, qt), (0, qa), (8, (qw 2)), (8, (qw 1)), (0, (qw 2)), (6, (.slice 5 0 0 6 8 (some 6))), (6, qf), (0, qt), (3, qf), (21, qt), (97, qt), (48, qt)] zz), bx (lg 4 3 5 ++ (ld 4 8)), bx [(qb 1), (qw 8), (qb 1), (qb 4), (qb 0), qn]]
def A8 : Bool := goA 1 7 pA8 eA8 hA8
def B8 (r : Nat) : Bool := goB r eA8 hA8 (pC8 r) eC8 hC8
def Q8 : Bool := goQs eA8 hA8 29 eP8 hP8
def P8 : Bool := goP eP8 hP8 (pC8 2) eC8 hC8
def C8 (_ : Nat) : Bool := goC eC8 hC8 pZ8 eZ8 hZ8
def Z8 (_ : Nat) : Bool := goZ eZ8 hZ8
def pA9 : List Nat := [283, 3, 1, 2, 71, 43, 136, 108, 225, 173, 282, 262, 287, 2686, 290, 294, 297, 301, 2868, 304, 869, 357, 2742, 360, 364, 367, 2901, 1055, 2816]
def eA9 : Env := upE [(10, (qw 9))] bA
def hA9 : Heap := (bx [(.ptr 1 0 0 7), (qb 1), (pg 12), (pg 15), (pg 17), (pg 21), (pg 24), (sm 26 0 2), (sm 27 7 8)]) :: (hH ++ [bx (patch [(1, (qi 1)), (0, (qb 1)), (0, (qw 1)), (20, qt), (0, qa), (8, (qw 2)), (8, (qw 1)), (0, (qw 2)), (6, (se 13 6)), (1, (sa 14))] z0), bx (lg 4 3 6), bx ac, bx (patch [(0, (qi 1)), (1, (qb 1)), (50, (sa 16))] z0), bx ac, bx (patch [(0, (qi 2)), (0, (qi 4)), (0, (qb 1)), (0, (qw 1)), (20, qt), (0, qa), (8, (qw 3)), (8, (qw 1)), (0, (qw 3)), (6, (se 18 6)), (1, (sa 19)), (0, qt), (0, qt), (0, qt), (0, qt), (1, qt), (1, qt), (0, qt), (246, (.slice 20 8 120 1 15 none))] z0), bx (lg 4 4 5 ++ (ld 4 9)), bx ac, .cells (wl 4 1 8 [(qb 0), qs, qt, qf, qt, qt, qf] ++ (ld 4 9) ++ [(qb 0), qs, qf, qf, qt, qf, qf]) 8 7, bx (patch [(0, (qi 3)), (0, (qi 1)), (0, (qb 1)), (0, (qw 1)), (20, qt), (0, qa), (8, (qw 2)), (8, (qw 1)), (0, (qw 2)), (6, (se 22 6)), (1, (sa 23))] z0), bx (lg 4 3 6), bx ac, bx (patch [(0, (qi 4)), (1, (qb 1)), (50, (sa 25))] z0), bx ac, bx (patch [(1, (qb 12)), (0, (qb 10)), (9, (qb 1)), (102, (qw 9)), (1, (qw 9)), (1, (qb 4))] zb ++ patch [(1, (qb 12)), (0, (qb 13)), (9, (qb 1)), (102, (qw 9)), (1, (qw 9)), (1, (qb 4))] zb), .cells (repeatL zt 8) 7 0, bx [(qb 1), (qw 9), (qb 1), (qb 4), (qb 0), qn]])
def eP9 : Env := upE [(10, (qw 9))] bP
def hP9 : Heap := upH [(0, bx [(.ptr 1 0 0 7), (qb 1), (pg 12), (pg 15), (pg 17), (pg 21), (pg 24), (.slice 26 0 262 0 131 none), (sm 27 7 8)])] hA9
def qC9 (a b c d : Nat) : List Nat := rg 13 ++ [14, 15, 16, a, b, c, 21, 23, 24, 25, d, 27, 28]
def pC9 (r : Nat) : List Nat := if r = 0 then qC9 39 484 42 697 else if r = 1 then qC9 39 408 42 727 else if r = 2 then qC9 39 332 42 757 else if r = 4 then qC9 95 484 98 697 else if r = 5 then qC9 95 408 98 727 else if r = 8 then qC9 151 484 154 697 else qC9 120 414 123 733
def eC9 : Env := upE [(10, (qw 9)), (134, (.agg [.top, qf, .top, .top, .top, .top, qf, .top, .top, .top, .top, qf, .top, .top, .top, .top, qf, .top, .top, .top, .top, qt, .top, .top, .top, .top, qf, .top, .top, .top, .top, .top, .top, .top, .top, .top, .top, .top, .top, .top, .top, .top, .top, .top, .top, .top, .top, .top, .top]))] bC
def hC9 : Heap := (bx [(.ptr 1 0 0 7), (qb 1), (pg 12), (pg 14), (pg 16), (pg 19), (pg 21), (sm 23 0 1), (sm 24 7 8)]) :: (hH ++ [bx (patch [(1, (qi 1)), (0, (qb 1)), (21, qt)] zw), bx ac, bx (patch [(0, (qi 1)), (1, (qb 1)), (50, (sa 15))] zw), bx ac, bx (patch [(0, (qi 2)), (0, (qi 4)), (0, (qb 1)), (0, (qw 1)), (20, qt), (0, qa), (8, (qw 3)), (8, (qw 1)), (0, (qw 3)), (6, (.slice 17 0 0 6 8 (some 6))), (1, (sa 18)), (0, qt), (0, qt), (0, qt), (0, qt), (1, qt), (1, qt), (0, qt), (22, qt), (97, qt), (48, qt)] z0), bx (lg 4 4 5 ++ (ld 4 9)), bx ac, bx (patch [(0, (qi 3)), (0, (qi 1)), (0, (qb 1)), (21, qt), (28, (sa 20))] zw), bx ac, bx (patch [(0, (qi 4)), (1, (qb 1)), (50, (sa 22))] zw), bx ac, bx (patch [(1, (qb 12)), (122, (qw 9)), (1, (qb 4))] zc), .cells (repeatL zt 8) 7 0, bx [(qb 1), (qw 9), (qb 1), (qb 4), (qb 0), qn]])
def pZ9 : List Nat := [0, 1, 6, 7, 16, 17, 25]
def eZ9 : Env := upE [(10, (qw 9)), (134, (.agg [.top, qf, .top, .top, .top, .top, qf, .top, .top, .top, .top, qf, .top, .top, .top, .top, qf, .top, .top, .top, .top, qt, .top, .top, .top, .top, qf, .top, .top, .top, .top, .top, .top, .top, .top, .top, .top, .top, .top, .top, .top, .top, .top, .top, .top, .top, .top, .top, .top]))] bZ
def hZ9 : Heap := [bx [(.ptr 1 0 0 7), (qb 1), .top, .top, (pg 4), .top, .top, .nils, .top], bx [.top, .top, (qw 1), .top, (.slice 2 0 0 1 2 none), .top, .top], bx [(qw 1), (.slice 3 2 0 3 1 none)], .cells ac 2 0, bx (patch [(24, qt), (0, qa), (8, (qw 3)), (8, (qw 1)), (0, (qw 3)), (6, (.slice 5 0 0 6 8 (some 6))), (6, qf), (0, qt), (3, qf), (21, qt), (97, qt), (48, qt)] zz), bx (lg 4 4 5 ++ (ld 4 9)), bx [(qb 1), (qw 9), (qb 1), (qb 4), (qb 0), qn]]
def A9 : Bool := goA 1 8 pA9 eA9 hA9
def B9 (r : Nat) : Bool := goB r eA9 hA9 (pC9 r) eC9 hC9
def Q9 : Bool := goQs eA9 hA9 29 eP9 hP9
def P9 : Bool := goP eP9 hP9 (pC9 2) eC9 hC9
def C9 (_ : Nat) : Bool := goC eC9 hC9 pZ9 eZ9 hZ9
def Z9 (_ : Nat) : Bool := goZ eZ9 hZ9
end
end Go.PE.Ag1
