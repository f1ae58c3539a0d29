/- GroupAgain's checkpoints (group 0). -/
import Derived.Test.YtcgjkbnijnefjaaGreatDoorAgZ
namespace Go.PE.Ag0
open Go.Proofs
set_option maxRecDepth 100000
noncomputable section
def ac : List V := [(qi 4), (qi 3), (qi 2)]
def pA1 : List Nat := [283, 3, 1, 2, 71, 43, 136, 108, 225, 173, 282, 262, 287, 290, 294, 297, 301, 304, 308, 311, 315, 890, 318, 903, 919, 845]
def eA1 : Env := upE [(10, (qw 1)), (12, (.ptr 25 0 0 6)), (46, u), (47, u), (48, u), (49, u), (50, u), (51, u), (52, u), (53, u), (54, u), (56, u), (57, u), (58, u)] bA
def hA1 : Heap := (bx [(.ptr 1 0 0 7), (qb 0), (pg 12), (pg 14), (pg 16), (pg 18), (pg 20), (sm 24 0 2), .nils]) :: (hH ++ [bx z0, bx ac, bx (patch [(0, (qi 1)), (52, (sa 15))] z0), bx ac, bx (patch [(0, (qi 2)), (0, (qi 1)), (1, (qw 1)), (49, (sa 17))] z0), bx ac, bx (patch [(0, (qi 3)), (0, (qi 1)), (1, (qw 1)), (49, (sa 19))] z0), bx ac, bx (patch [(0, (qi 4)), (0, (qi 4)), (1, (qw 1)), (47, (se 21 1)), (1, (sa 22)), (0, qt), (0, qt), (0, qt), (0, qt), (0, qt), (2, qt), (0, qt), (0, qt), (245, (.slice 23 0 0 1 15 none))] z0), bx (ld 0 1), bx ac, bx ((ld 0 1) ++ [(qb 0), qs, qf, qf, qf, qf, qt]), bx (zb ++ patch [(2, (qb 13))] zb), bx [(qb 1), (qw 1), (qb 1), (qb 0), (qb 0), qn]])
def eP1 : Env := upE [(10, (qw 1)), (12, (.ptr 25 0 0 6)), (46, u), (47, u), (48, u), (49, u), (50, u), (51, u), (52, u), (53, u), (54, u), (56, u), (57, u), (58, u)] bP
def hP1 : Heap := upH [(0, bx [(.ptr 1 0 0 7), (qb 0), (pg 12), (pg 14), (pg 16), (pg 18), (pg 20), (.slice 24 0 262 0 131 none), .nils])] hA1
def qC1 (a b c d : Nat) : List Nat := rg 20 ++ [a, b, c, d, 25]
def pC1 (r : Nat) : List Nat := if r = 0 then qC1 36 529 39 720 else if r = 1 then qC1 36 454 39 692 else if r = 2 then qC1 36 379 39 664 else if r = 4 then qC1 91 529 94 720 else if r = 5 then qC1 91 454 94 692 else if r = 8 then qC1 146 529 149 720 else qC1 116 460 119 698
def eC1 : Env := upE [(10, (qw 1)), (12, (.ptr 24 0 0 6)), (46, u), (47, u), (48, u), (49, u), (50, u), (51, u), (52, u), (53, u), (54, u), (56, u), (57, u), (58, u)] bC
def hC1 : Heap := (bx [(.ptr 1 0 0 7), (qb 0), (pg 12), (pg 14), (pg 16), (pg 18), (pg 20), (sm 23 0 1), .nils]) :: (hH ++ [bx zw, bx ac, bx (patch [(0, (qi 1)), (52, (sa 15))] zw), bx ac, bx (patch [(0, (qi 2)), (0, (qi 1)), (51, (sa 17))] zw), bx ac, bx (patch [(0, (qi 3)), (0, (qi 1)), (51, (sa 19))] zw), bx ac, bx (patch [(0, (qi 4)), (0, (qi 4)), (1, (qw 1)), (47, (.slice 21 0 0 1 8 (some 1))), (1, (sa 22)), (0, qt), (0, qt), (0, qt), (0, qt), (0, qt), (2, qt), (0, qt), (0, qt)] z0), bx (ld 0 1), bx ac, bx zc, bx [(qb 1), (qw 1), (qb 1), (qb 0), (qb 0), qn]])
def pZ1 : List Nat := [0, 1, 4, 5, 20, 21, 24]
def eZ1 : Env := upE [(10, (qw 1)), (46, u), (47, u), (48, u), (49, u), (50, u), (51, u), (52, u), (53, u), (54, u), (56, u), (57, u), (58, u)] bZ
def hZ1 : Heap := [bx [(.ptr 1 0 0 7), (qb 0), .top, .top, .top, .top, (pg 4), .nils, .top], bx [.top, .top, (qw 1), (.slice 2 0 0 1 2 none), .top, .top, .top], bx [(qw 1), (.slice 3 2 0 3 1 none)], .cells ac 2 0, bx zz, bx (ld 0 1), bx [(qb 1), (qw 1), (qb 1), (qb 0), (qb 0), qn]]
def A1 : Bool := goA 0 0 pA1 eA1 hA1
def B1 (r : Nat) : Bool := goB r eA1 hA1 (pC1 r) eC1 hC1
def Q1 : Bool := goQs eA1 hA1 26 eP1 hP1
def P1 : Bool := goP eP1 hP1 (pC1 2) eC1 hC1
def C1 (_ : Nat) : Bool := goC eC1 hC1 pZ1 eZ1 hZ1
def Z1 (_ : Nat) : Bool := goZ eZ1 hZ1
def pA2 : List Nat := [283, 3, 1, 2, 71, 43, 136, 108, 225, 173, 282, 262, 287, 290, 294, 297, 301, 960, 304, 308, 1015, 311, 315, 1136, 318, 902, 1165, 1088, 1090]
def eA2 : Env := bA
def hA2 : Heap := (bx [(.ptr 1 0 0 7), (qb 0), (pg 12), (pg 14), (pg 16), (pg 19), (pg 22), (sm 26 0 2), (sm 27 0 1)]) :: (hH ++ [bx z0, bx ac, bx (patch [(0, (qi 1)), (52, (sa 15))] z0), bx ac, bx (patch [(0, (qi 2)), (0, (qi 1)), (1, (qw 1)), (47, (se 17 1)), (1, (sa 18))] z0), bx (lg 0 1 1), bx ac, bx (patch [(0, (qi 3)), (0, (qi 1)), (1, (qw 1)), (47, (se 20 1)), (1, (sa 21))] z0), bx (lg 0 1 1), bx ac, bx (patch [(0, (qi 4)), (0, (qi 4)), (1, (qw 1)), (47, (se 23 2)), (1, (sa 24)), (0, qt), (0, qt), (0, qt), (0, qt), (0, qt), (2, qt), (0, qt), (0, qt), (245, (.slice 25 1 15 1 15 none))] z0), bx (lg 0 1 1 ++ (ld 0 2)), bx ac, .cells (wl 0 1 1 [(qb 0), qs, qf, qf, qt, qt, qt] ++ (ld 0 2) ++ [(qb 0), qs, qf, qf, qf, qf, qt]) 1 0, bx (patch [(115, (qw 2)), (1, (qw 2))] zb ++ patch [(2, (qb 13)), (112, (qw 2)), (1, (qw 2))] zb), bx zt, bx [(qb 1), (qw 2), (qb 1), (qb 0), (qb 0), qn]])
def eP2 : Env := bP
def hP2 : Heap := upH [(0, bx [(.ptr 1 0 0 7), (qb 0), (pg 12), (pg 14), (pg 16), (pg 19), (pg 22), (.slice 26 0 262 0 131 none), (sm 27 0 1)])] hA2
def qC2 (a b c d : Nat) : List Nat := rg 17 ++ [18, 19, 21, a, b, c, d, 27, 28]
def pC2 (r : Nat) : List Nat := if r = 0 then qC2 39 532 42 724 else if r = 1 then qC2 39 457 42 707 else if r = 2 then qC2 39 382 42 690 else if r = 4 then qC2 94 532 97 724 else if r = 5 then qC2 94 457 97 707 else if r = 8 then qC2 149 532 152 724 else qC2 119 463 122 713
def eC2 : Env := bC
def hC2 : Heap := (bx [(.ptr 1 0 0 7), (qb 0), (pg 12), (pg 14), (pg 16), (pg 18), (pg 20), (sm 23 0 1), (sm 24 0 1)]) :: (hH ++ [bx zw, bx ac, bx (patch [(0, (qi 1)), (52, (sa 15))] zw), bx ac, bx (patch [(0, (qi 2)), (0, (qi 1)), (51, (sa 17))] zw), bx ac, bx (patch [(0, (qi 3)), (0, (qi 1)), (51, (sa 19))] zw), bx ac, bx (patch [(0, (qi 4)), (0, (qi 4)), (1, (qw 1)), (47, (.slice 21 0 0 2 8 (some 2))), (1, (sa 22)), (0, qt), (0, qt), (0, qt), (0, qt), (0, qt), (2, qt), (0, qt), (0, qt)] z0), bx (lg 0 1 1 ++ (ld 0 2)), bx ac, bx (patch [(124, (qw 2))] zc), bx zt, bx [(qb 1), (qw 2), (qb 1), (qb 0), (qb 0), qn]])
def pZ2 : List Nat := [0, 1, 4, 5, 20, 21, 25]
def eZ2 : Env := bZ
def hZ2 : Heap := [bx [(.ptr 1 0 0 7), (qb 0), .top, .top, .top, .top, (pg 4), .nils, .top], bx [.top, .top, (qw 1), (.slice 2 0 0 1 2 none), .top, .top, .top], bx [(qw 1), (.slice 3 2 0 3 1 none)], .cells ac 2 0, bx (patch [(51, (.slice 5 0 0 2 8 (some 2)))] zz), bx (lg 0 1 1 ++ (ld 0 2)), bx [(qb 1), (qw 2), (qb 1), (qb 0), (qb 0), qn]]
def A2 : Bool := goA 0 1 pA2 eA2 hA2
def B2 (r : Nat) : Bool := goB r eA2 hA2 (pC2 r) eC2 hC2
def Q2 : Bool := goQs eA2 hA2 29 eP2 hP2
def P2 : Bool := goP eP2 hP2 (pC2 2) eC2 hC2
def C2 (_ : Nat) : Bool := goC eC2 hC2 pZ2 eZ2 hZ2
def Z2 (_ : Nat) : Bool := goZ eZ2 hZ2
def pA3 : List Nat := [283, 3, 1, 2, 71, 43, 136, 108, 225, 173, 282, 262, 287, 290, 294, 297, 301, 1206, 304, 308, 1261, 311, 315, 1382, 318, 902, 1412, 1088, 1335]
def eA3 : Env := upE [(10, (qw 3))] bA
def hA3 : Heap := (bx [(.ptr 1 0 0 7), (qb 0), (pg 12), (pg 14), (pg 16), (pg 19), (pg 22), (sm 26 0 2), (sm 27 1 2)]) :: (hH ++ [bx z0, bx ac, bx (patch [(0, (qi 1)), (52, (sa 15))] z0), bx ac, bx (patch [(0, (qi 2)), (0, (qi 1)), (1, (qw 1)), (47, (se 17 2)), (1, (sa 18))] z0), bx (lg 0 1 2), bx ac, bx (patch [(0, (qi 3)), (0, (qi 1)), (1, (qw 1)), (47, (se 20 2)), (1, (sa 21))] z0), bx (lg 0 1 2), bx ac, bx (patch [(0, (qi 4)), (0, (qi 4)), (1, (qw 1)), (47, (se 23 3)), (1, (sa 24)), (0, qt), (0, qt), (0, qt), (0, qt), (0, qt), (2, qt), (0, qt), (0, qt), (245, (.slice 25 2 30 1 15 none))] z0), bx (lg 0 1 2 ++ (ld 0 3)), bx ac, .cells (wl 0 1 2 [(qb 0), qs, qf, qf, qt, qt, qt] ++ (ld 0 3) ++ [(qb 0), qs, qf, qf, qf, qf, qt]) 2 1, bx (patch [(115, (qw 3)), (1, (qw 3))] zb ++ patch [(2, (qb 13)), (112, (qw 3)), (1, (qw 3))] zb), .cells (repeatL zt 2) 1 0, bx [(qb 1), (qw 3), (qb 1), (qb 0), (qb 0), qn]])
def eP3 : Env := upE [(10, (qw 3))] bP
def hP3 : Heap := upH [(0, bx [(.ptr 1 0 0 7), (qb 0), (pg 12), (pg 14), (pg 16), (pg 19), (pg 22), (.slice 26 0 262 0 131 none), (sm 27 1 2)])] hA3
def qC3 (a b c d : Nat) : List Nat := rg 17 ++ [18, 19, 21, a, b, c, d, 27, 28]
def pC3 (r : Nat) : List Nat := if r = 0 then qC3 39 532 42 725 else if r = 1 then qC3 39 457 42 718 else if r = 2 then qC3 39 382 42 711 else if r = 4 then qC3 94 532 97 725 else if r = 5 then qC3 94 457 97 718 else if r = 8 then qC3 149 532 152 725 else qC3 119 463 122 724
def eC3 : Env := upE [(10, (qw 3))] bC
def hC3 : Heap := (bx [(.ptr 1 0 0 7), (qb 0), (pg 12), (pg 14), (pg 16), (pg 18), (pg 20), (sm 23 0 1), (sm 24 1 2)]) :: (hH ++ [bx zw, bx ac, bx (patch [(0, (qi 1)), (52, (sa 15))] zw), bx ac, bx (patch [(0, (qi 2)), (0, (qi 1)), (51, (sa 17))] zw), bx ac, bx (patch [(0, (qi 3)), (0, (qi 1)), (51, (sa 19))] zw), bx ac, bx (patch [(0, (qi 4)), (0, (qi 4)), (1, (qw 1)), (47, (.slice 21 0 0 3 8 (some 3))), (1, (sa 22)), (0, qt), (0, qt), (0, qt), (0, qt), (0, qt), (2, qt), (0, qt), (0, qt)] z0), bx (lg 0 1 2 ++ (ld 0 3)), bx ac, bx (patch [(124, (qw 3))] zc), .cells (repeatL zt 2) 1 0, bx [(qb 1), (qw 3), (qb 1), (qb 0), (qb 0), qn]])
def pZ3 : List Nat := [0, 1, 4, 5, 20, 21, 25]
def eZ3 : Env := upE [(10, (qw 3))] bZ
def hZ3 : Heap := [bx [(.ptr 1 0 0 7), (qb 0), .top, .top, .top, .top, (pg 4), .nils, .top], bx [.top, .top, (qw 1), (.slice 2 0 0 1 2 none), .top, .top, .top], bx [(qw 1), (.slice 3 2 0 3 1 none)], .cells ac 2 0, bx (patch [(51, (.slice 5 0 0 3 8 (some 3)))] zz), bx (lg 0 1 2 ++ (ld 0 3)), bx [(qb 1), (qw 3), (qb 1), (qb 0), (qb 0), qn]]
def A3 : Bool := goA 0 2 pA3 eA3 hA3
def B3 (r : Nat) : Bool := goB r eA3 hA3 (pC3 r) eC3 hC3
def Q3 : Bool := goQs eA3 hA3 29 eP3 hP3
def P3 : Bool := goP eP3 hP3 (pC3 2) eC3 hC3
def C3 (_ : Nat) : Bool := goC eC3 hC3 pZ3 eZ3 hZ3
def Z3 (_ : Nat) : Bool := goZ eZ3 hZ3
def pA4 : List Nat := [283, 3, 1, 2, 71, 43, 136, 108, 225, 173, 282, 262, 287, 290, 294, 297, 301, 1453, 304, 308, 1508, 311, 315, 1630, 318, 902, 1661, 1088, 1582]
def eA4 : Env := upE [(10, (qw 4))] bA
def hA4 : Heap := (bx [(.ptr 1 0 0 7), (qb 0), (pg 12), (pg 14), (pg 16), (pg 19), (pg 22), (sm 26 0 2), (sm 27 2 3)]) :: (hH ++ [bx z0, bx ac, bx (patch [(0, (qi 1)), (52, (sa 15))] z0), bx ac, bx (patch [(0, (qi 2)), (0, (qi 1)), (1, (qw 1)), (47, (se 17 3)), (1, (sa 18))] z0), bx (lg 0 1 3), bx ac, bx (patch [(0, (qi 3)), (0, (qi 1)), (1, (qw 1)), (47, (se 20 3)), (1, (sa 21))] z0), bx (lg 0 1 3), bx ac, bx (patch [(0, (qi 4)), (0, (qi 4)), (1, (qw 1)), (47, (se 23 4)), (1, (sa 24)), (0, qt), (0, qt), (0, qt), (0, qt), (0, qt), (2, qt), (0, qt), (0, qt), (245, (.slice 25 3 45 1 15 none))] z0), bx (lg 0 1 3 ++ (ld 0 4)), bx ac, .cells (wl 0 1 3 [(qb 0), qs, qf, qf, qt, qt, qt] ++ (ld 0 4) ++ [(qb 0), qs, qf, qf, qf, qf, qt]) 3 2, bx (patch [(115, (qw 4)), (1, (qw 4))] zb ++ patch [(2, (qb 13)), (112, (qw 4)), (1, (qw 4))] zb), .cells (repeatL zt 3) 2 0, bx [(qb 1), (qw 4), (qb 1), (qb 0), (qb 0), qn]])
def eP4 : Env := upE [(10, (qw 4))] bP
def hP4 : Heap := upH [(0, bx [(.ptr 1 0 0 7), (qb 0), (pg 12), (pg 14), (pg 16), (pg 19), (pg 22), (.slice 26 0 262 0 131 none), (sm 27 2 3)])] hA4
def qC4 (a b c d : Nat) : List Nat := rg 17 ++ [18, 19, 21, a, b, c, d, 27, 28]
def pC4 (r : Nat) : List Nat := if r = 0 then qC4 39 532 42 726 else if r = 1 then qC4 39 457 42 729 else if r = 2 then qC4 39 382 42 732 else if r = 4 then qC4 94 532 97 726 else if r = 5 then qC4 94 457 97 729 else if r = 8 then qC4 149 532 152 726 else qC4 119 463 122 735
def eC4 : Env := upE [(10, (qw 4))] bC
def hC4 : Heap := (bx [(.ptr 1 0 0 7), (qb 0), (pg 12), (pg 14), (pg 16), (pg 18), (pg 20), (sm 23 0 1), (sm 24 2 3)]) :: (hH ++ [bx zw, bx ac, bx (patch [(0, (qi 1)), (52, (sa 15))] zw), bx ac, bx (patch [(0, (qi 2)), (0, (qi 1)), (51, (sa 17))] zw), bx ac, bx (patch [(0, (qi 3)), (0, (qi 1)), (51, (sa 19))] zw), bx ac, bx (patch [(0, (qi 4)), (0, (qi 4)), (1, (qw 1)), (47, (.slice 21 0 0 4 8 (some 4))), (1, (sa 22)), (0, qt), (0, qt), (0, qt), (0, qt), (0, qt), (2, qt), (0, qt), (0, qt)] z0), bx (lg 0 1 3 ++ (ld 0 4)), bx ac, bx (patch [(124, (qw 4))] zc), .cells (repeatL zt 3) 2 0, bx [(qb 1), (qw 4), (qb 1), (qb 0), (qb 0), qn]])
def pZ4 : List Nat := [0, 1, 4, 5, 20, 21, 25]
def eZ4 : Env := upE [(10, (qw 4))] bZ
def hZ4 : Heap := [bx [(.ptr 1 0 0 7), (qb 0), .top, .top, .top, .top, (pg 4), .nils, .top], bx [.top, .top, (qw 1), (.slice 2 0 0 1 2 none), .top, .top, .top], bx [(qw 1), (.slice 3 2 0 3 1 none)], .cells ac 2 0, bx (patch [(51, (.slice 5 0 0 4 8 (some 4)))] zz), bx (lg 0 1 3 ++ (ld 0 4)), bx [(qb 1), (qw 4), (qb 1), (qb 0), (qb 0), qn]]
def A4 : Bool := goA 0 3 pA4 eA4 hA4
def B4 (r : Nat) : Bool := goB r eA4 hA4 (pC4 r) eC4 hC4
def Q4 : Bool := goQs eA4 hA4 29 eP4 hP4
def P4 : Bool := goP eP4 hP4 (pC4 2) eC4 hC4
def C4 (_ : Nat) : Bool := goC eC4 hC4 pZ4 eZ4 hZ4
def Z4 (_ : Nat) : Bool := goZ eZ4 hZ4
def pA5 : List Nat := [283, 3, 1, 2, 71, 43, 136, 108, 225, 173, 282, 262, 287, 290, 294, 297, 301, 1702, 304, 308, 1757, 311, 315, 1880, 318, 902, 1912, 1088, 1831]
def eA5 : Env := upE [(10, (qw 5))] bA
def hA5 : Heap := (bx [(.ptr 1 0 0 7), (qb 0), (pg 12), (pg 14), (pg 16), (pg 19), (pg 22), (sm 26 0 2), (sm 27 3 4)]) :: (hH ++ [bx z0, bx ac, bx (patch [(0, (qi 1)), (52, (sa 15))] z0), bx ac, bx (patch [(0, (qi 2)), (0, (qi 1)), (1, (qw 1)), (47, (se 17 4)), (1, (sa 18))] z0), bx (lg 0 1 4), bx ac, bx (patch [(0, (qi 3)), (0, (qi 1)), (1, (qw 1)), (47, (se 20 4)), (1, (sa 21))] z0), bx (lg 0 1 4), bx ac, bx (patch [(0, (qi 4)), (0, (qi 4)), (1, (qw 1)), (47, (se 23 5)), (1, (sa 24)), (0, qt), (0, qt), (0, qt), (0, qt), (0, qt), (2, qt), (0, qt), (0, qt), (245, (.slice 25 4 60 1 15 none))] z0), bx (lg 0 1 4 ++ (ld 0 5)), bx ac, .cells (wl 0 1 4 [(qb 0), qs, qf, qf, qt, qt, qt] ++ (ld 0 5) ++ [(qb 0), qs, qf, qf, qf, qf, qt]) 4 3, bx (patch [(115, (qw 5)), (1, (qw 5))] zb ++ patch [(2, (qb 13)), (112, (qw 5)), (1, (qw 5))] zb), .cells (repeatL zt 4) 3 0, bx [(qb 1), (qw 5), (qb 1), (qb 0), (qb 0), qn]])
def eP5 : Env := upE [(10, (qw 5))] bP
def hP5 : Heap := upH [(0, bx [(.ptr 1 0 0 7), (qb 0), (pg 12), (pg 14), (pg 16), (pg 19), (pg 22), (.slice 26 0 262 0 131 none), (sm 27 3 4)])] hA5
def qC5 (a b c d : Nat) : List Nat := rg 17 ++ [18, 19, 21, a, b, c, d, 27, 28]
def pC5 (r : Nat) : List Nat := if r = 0 then qC5 39 532 42 727 else if r = 1 then qC5 39 457 42 740 else if r = 2 then qC5 39 382 42 753 else if r = 4 then qC5 94 532 97 727 else if r = 5 then qC5 94 457 97 740 else if r = 8 then qC5 149 532 152 727 else qC5 119 463 122 746
def eC5 : Env := upE [(10, (qw 5))] bC
def hC5 : Heap := (bx [(.ptr 1 0 0 7), (qb 0), (pg 12), (pg 14), (pg 16), (pg 18), (pg 20), (sm 23 0 1), (sm 24 3 4)]) :: (hH ++ [bx zw, bx ac, bx (patch [(0, (qi 1)), (52, (sa 15))] zw), bx ac, bx (patch [(0, (qi 2)), (0, (qi 1)), (51, (sa 17))] zw), bx ac, bx (patch [(0, (qi 3)), (0, (qi 1)), (51, (sa 19))] zw), bx ac, bx (patch [(0, (qi 4)), (0, (qi 4)), (1, (qw 1)), (47, (.slice 21 0 0 5 8 (some 5))), (1, (sa 22)), (0, qt), (0, qt), (0, qt), (0, qt), (0, qt), (2, qt), (0, qt), (0, qt)] z0), bx (lg 0 1 4 ++ (ld 0 5)), bx ac, bx (patch [(124, (qw 5))] zc), .cells (repeatL zt 4) 3 0, bx [(qb 1), (qw 5), (qb 1), (qb 0), (qb 0), qn]])
def pZ5 : List Nat := [0, 1, 4, 5, 20, 21, 25]
def eZ5 : Env := upE [(10, (qw 5))] bZ
def hZ5 : Heap := [bx [(.ptr 1 0 0 7), (qb 0), .top, .top, .top, .top, (pg 4), .nils, .top], bx [.top, .top, (qw 1), (.slice 2 0 0 1 2 none), .top, .top, .top], bx [(qw 1), (.slice 3 2 0 3 1 none)], .cells ac 2 0, bx (patch [(51, (.slice 5 0 0 5 8 (some 5)))] zz), bx (lg 0 1 4 ++ (ld 0 5)), bx [(qb 1), (qw 5), (qb 1), (qb 0), (qb 0), qn]]
def A5 : Bool := goA 0 4 pA5 eA5 hA5
def B5 (r : Nat) : Bool := goB r eA5 hA5 (pC5 r) eC5 hC5
def Q5 : Bool := goQs eA5 hA5 29 eP5 hP5
def P5 : Bool := goP eP5 hP5 (pC5 2) eC5 hC5
def C5 (_ : Nat) : Bool := goC eC5 hC5 pZ5 eZ5 hZ5
def Z5 (_ : Nat) : Bool := goZ eZ5 hZ5
def pA6 : List Nat := [283, 3, 1, 2, 71, 43, 136, 108, 225, 173, 282, 262, 287, 290, 294, 297, 301, 1953, 304, 308, 2008, 311, 315, 2132, 318, 902, 2165, 1088, 2082]
def eA6 : Env := upE [(10, (qw 6))] bA
def hA6 : Heap := (bx [(.ptr 1 0 0 7), (qb 0), (pg 12), (pg 14), (pg 16), (pg 19), (pg 22), (sm 26 0 2), (sm 27 4 5)]) :: (hH ++ [bx z0, bx ac, bx (patch [(0, (qi 1)), (52, (sa 15))] z0), bx ac, bx (patch [(0, (qi 2)), (0, (qi 1)), (1, (qw 1)), (47, (se 17 5)), (1, (sa 18))] z0), bx (lg 0 1 5), bx ac, bx (patch [(0, (qi 3)), (0, (qi 1)), (1, (qw 1)), (47, (se 20 5)), (1, (sa 21))] z0), bx (lg 0 1 5), bx ac, bx (patch [(0, (qi 4)), (0, (qi 4)), (1, (qw 1)), (47, (se 23 6)), (1, (sa 24)), (0, qt), (0, qt), (0, qt), (0, qt), (0, qt), (2, qt), (0, qt), (0, qt), (245, (.slice 25 5 75 1 15 none))] z0), bx (lg 0 1 5 ++ (ld 0 6)), bx ac, .cells (wl 0 1 5 [(qb 0), qs, qf, qf, qt, qt, qt] ++ (ld 0 6) ++ [(qb 0), qs, qf, qf, qf, qf, qt]) 5 4, bx (patch [(115, (qw 6)), (1, (qw 6))] zb ++ patch [(2, (qb 13)), (112, (qw 6)), (1, (qw 6))] zb), .cells (repeatL zt 5) 4 0, bx [(qb 1), (qw 6), (qb 1), (qb 0), (qb 0), qn]])
def eP6 : Env := upE [(10, (qw 6))] bP
def hP6 : Heap := upH [(0, bx [(.ptr 1 0 0 7), (qb 0), (pg 12), (pg 14), (pg 16), (pg 19), (pg 22), (.slice 26 0 262 0 131 none), (sm 27 4 5)])] hA6
def qC6 (a b c d : Nat) : List Nat := rg 17 ++ [18, 19, 21, a, b, c, d, 27, 28]
def pC6 (r : Nat) : List Nat := if r = 0 then qC6 39 532 42 728 else if r = 1 then qC6 39 457 42 751 else if r = 2 then qC6 39 382 42 774 else if r = 4 then qC6 94 532 97 728 else if r = 5 then qC6 94 457 97 751 else if r = 8 then qC6 149 532 152 728 else qC6 119 463 122 757
def eC6 : Env := upE [(10, (qw 6))] bC
def hC6 : Heap := (bx [(.ptr 1 0 0 7), (qb 0), (pg 12), (pg 14), (pg 16), (pg 18), (pg 20), (sm 23 0 1), (sm 24 4 5)]) :: (hH ++ [bx zw, bx ac, bx (patch [(0, (qi 1)), (52, (sa 15))] zw), bx ac, bx (patch [(0, (qi 2)), (0, (qi 1)), (51, (sa 17))] zw), bx ac, bx (patch [(0, (qi 3)), (0, (qi 1)), (51, (sa 19))] zw), bx ac, bx (patch [(0, (qi 4)), (0, (qi 4)), (1, (qw 1)), (47, (.slice 21 0 0 6 8 (some 6))), (1, (sa 22)), (0, qt), (0, qt), (0, qt), (0, qt), (0, qt), (2, qt), (0, qt), (0, qt)] z0), bx (lg 0 1 5 ++ (ld 0 6)), bx ac, bx (patch [(124, (qw 6))] zc), .cells (repeatL zt 5) 4 0, bx [(qb 1), (qw 6), (qb 1), (qb 0), (qb 0), qn]])
def pZ6 : List Nat := [0, 1, 4, 5, 20, 21, 25]
def eZ6 : Env := upE [(10, (qw 6))] bZ
def hZ6 : Heap := [bx [(.ptr 1 0 0 7), (qb 0), .top, .top, .top, .top, (pg 4), .nils, .top], bx [.top, .top, (qw 1), (.slice 2 0 0 1 2 none), .top, .top, .top], bx [(qw 1), (.slice 3 2 0 3 1 none)], .cells ac 2 0, bx (patch [(51, (.slice 5 0 0 6 8 (some 6)))] zz), bx (lg 0 1 5 ++ (ld 0 6)), bx [(qb 1), (qw 6), (qb 1), (qb 0), (qb 0), qn]]
def A6 : Bool := goA 0 5 pA6 eA6 hA6
def B6 (r : Nat) : Bool := goB r eA6 hA6 (pC6 r) eC6 hC6
def Q6 : Bool := goQs eA6 hA6 29 eP6 hP6
def P6 : Bool := goP eP6 hP6 (pC6 2) eC6 hC6
def C6 (_ : Nat) : Bool := goC eC6 hC6 pZ6 eZ6 hZ6
def Z6 (_ : Nat) : Bool := goZ eZ6 hZ6
def pA7 : List Nat := [283, 3, 1, 2, 71, 43, 136, 108, 225, 173, 282, 262, 287, 290, 294, 297, 301, 2206, 304, 308, 2261, 311, 315, 2387, 318, 902, 2420, 1088, 2335]
def eA7 : Env := upE [(10, (qw 7))] bA
def hA7 : Heap := (bx [(.ptr 1 0 0 7), (qb 0), (pg 12), (pg 14), (pg 16), (pg 19), (pg 22), (sm 26 0 2), (sm 27 5 6)]) :: (hH ++ [bx z0, bx ac, bx (patch [(0, (qi 1)), (52, (sa 15))] z0), bx ac, bx (patch [(0, (qi 2)), (0, (qi 1)), (1, (qw 1)), (47, (se 17 6)), (1, (sa 18))] z0), bx (lg 0 1 6), bx ac, bx (patch [(0, (qi 3)), (0, (qi 1)), (1, (qw 1)), (47, (se 20 6)), (1, (sa 21))] z0), bx (lg 0 1 6), bx ac, bx (patch [(0, (qi 4)), (0, (qi 4)), (1, (qw 1)), (0, qt), (0, qa), (28, (qw 1)), (8, (qw 1)), (0, (qw 1)), (6, (se 23 6)), (1, (sa 24)), (0, qt), (0, qt), (0, qt), (0, qt), (0, qt), (2, qt), (0, qt), (0, qt), (245, (.slice 25 6 90 1 15 none))] z0), bx (lg 0 2 5 ++ (ld 0 7)), bx ac, .cells (wl 0 1 6 [(qb 0), qs, qf, qf, qt, qt, qt] ++ (ld 0 7) ++ [(qb 0), qs, qf, qf, qf, qf, qt]) 6 5, bx (patch [(115, (qw 7)), (1, (qw 7))] zb ++ patch [(2, (qb 13)), (112, (qw 7)), (1, (qw 7))] zb), .cells (repeatL zt 6) 5 0, bx [(qb 1), (qw 7), (qb 1), (qb 0), (qb 0), qn]])
def eP7 : Env := upE [(10, (qw 7))] bP
def hP7 : Heap := upH [(0, bx [(.ptr 1 0 0 7), (qb 0), (pg 12), (pg 14), (pg 16), (pg 19), (pg 22), (.slice 26 0 262 0 131 none), (sm 27 5 6)])] hA7
def qC7 (a b c d : Nat) : List Nat := rg 17 ++ [18, 19, 21, a, b, c, d, 27, 28]
def pC7 (r : Nat) : List Nat := if r = 0 then qC7 39 534 42 730 else if r = 1 then qC7 39 458 42 760 else if r = 2 then qC7 39 382 42 790 else if r = 4 then qC7 95 534 98 730 else if r = 5 then qC7 95 458 98 760 else if r = 8 then qC7 151 534 154 730 else qC7 120 464 123 766
def eC7 : Env := upE [(10, (qw 7)), (134, (.agg [.top, qt, .top, .top, .top, .top, qf, .top, .top, .top, .top, qf, .top, .top, .top, .top, qf, .top, .top, .top, .top, qf, .top, .top, .top, .top, qf, .top, .top, .top, .top, .top, .top, .top, .top, .top, .top, .top, .top, .top, .top, .top, .top, .top, .top, .top, .top, .top, .top]))] bC
def hC7 : Heap := (bx [(.ptr 1 0 0 7), (qb 0), (pg 12), (pg 14), (pg 16), (pg 18), (pg 20), (sm 23 0 1), (sm 24 5 6)]) :: (hH ++ [bx zw, bx ac, bx (patch [(0, (qi 1)), (52, (sa 15))] zw), bx ac, bx (patch [(0, (qi 2)), (0, (qi 1)), (2, qt), (48, (sa 17))] zw), bx ac, bx (patch [(0, (qi 3)), (0, (qi 1)), (2, qt), (48, (sa 19))] zw), bx ac, bx (patch [(0, (qi 4)), (0, (qi 4)), (1, (qw 1)), (0, qt), (0, qa), (28, (qw 1)), (8, (qw 1)), (0, (qw 1)), (6, (.slice 21 0 0 6 8 (some 6))), (1, (sa 22)), (0, qt), (0, qt), (0, qt), (0, qt), (0, qt), (2, qt), (0, qt), (0, qt), (99, qt), (48, qt), (48, qt)] z0), bx (lg 0 2 5 ++ (ld 0 7)), bx ac, bx (patch [(124, (qw 7))] zc), .cells (repeatL zt 6) 5 0, bx [(qb 1), (qw 7), (qb 1), (qb 0), (qb 0), qn]])
def pZ7 : List Nat := [0, 1, 4, 5, 20, 21, 25]
def eZ7 : Env := upE [(10, (qw 7)), (134, (.agg [.top, qt, .top, .top, .top, .top, qf, .top, .top, .top, .top, qf, .top, .top, .top, .top, qf, .top, .top, .top, .top, qf, .top, .top, .top, .top, qf, .top, .top, .top, .top, .top, .top, .top, .top, .top, .top, .top, .top, .top, .top, .top, .top, .top, .top, .top, .top, .top, .top]))] bZ
def hZ7 : Heap := [bx [(.ptr 1 0 0 7), (qb 0), .top, .top, .top, .top, (pg 4), .nils, .top], bx [.top, .top, (qw 1), (.slice 2 0 0 1 2 none), .top, .top, .top], bx [(qw 1), (.slice 3 2 0 3 1 none)], .cells ac 2 0, bx (patch [(4, qt), (0, qa), (28, (qw 1)), (8, (qw 1)), (0, (qw 1)), (6, (.slice 5 0 0 6 8 (some 6))), (111, qt), (48, qt), (48, qt)] zz), bx (lg 0 2 5 ++ (ld 0 7)), bx [(qb 1), (qw 7), (qb 1), (qb 0), (qb 0), qn]]
def hC7b : Heap := upH [(20, .cells (upE [(163, qf)] (cellsAt hC7 20)) 0 0)] hC7
def hZ7b : Heap := upH [(4, .cells (upE [(163, qf)] (cellsAt hZ7 4)) 0 0)] hZ7
def hC7c : Heap := upH [(20, .cells (upE [(163, qf), (212, qf)] (cellsAt hC7 20)) 0 0)] hC7
def hZ7c : Heap := upH [(4, .cells (upE [(163, qf), (212, qf)] (cellsAt hZ7 4)) 0 0)] hZ7
def A7 : Bool := goA 0 6 pA7 eA7 hA7
def B7 (r : Nat) : Bool := goB r eA7 hA7 (pC7 r) eC7 (hv r hC7 hC7b hC7c)
def Q7 : Bool := goQs eA7 hA7 29 eP7 hP7
def P7 : Bool := goP eP7 hP7 (pC7 2) eC7 (hv 2 hC7 hC7b hC7c)
def C7 (r : Nat) : Bool := goC eC7 (hv r hC7 hC7b hC7c) pZ7 eZ7 (hv r hZ7 hZ7b hZ7c)
def Z7 (r : Nat) : Bool := goZ eZ7 (hv r hZ7 hZ7b hZ7c)
def pA8 : List Nat := [283, 3, 1, 2, 71, 43, 136, 108, 225, 173, 282, 262, 287, 290, 294, 297, 301, 2462, 304, 308, 2518, 311, 315, 2644, 318, 902, 2677, 1088, 2592]
def eA8 : Env := upE [(10, (qw 8))] bA
def hA8 : Heap := (bx [(.ptr 1 0 0 7), (qb 0), (pg 12), (pg 14), (pg 16), (pg 19), (pg 22), (sm 26 0 2), (sm 27 6 7)]) :: (hH ++ [bx z0, bx ac, bx (patch [(0, (qi 1)), (52, (sa 15))] z0), bx ac, bx (patch [(0, (qi 2)), (0, (qi 1)), (1, (qw 1)), (0, qt), (0, qa), (28, (qw 1)), (8, (qw 1)), (0, (qw 1)), (6, (se 17 6)), (1, (sa 18))] z0), bx (lg 0 2 6), bx ac, bx (patch [(0, (qi 3)), (0, (qi 1)), (1, (qw 1)), (0, qt), (0, qa), (28, (qw 1)), (8, (qw 1)), (0, (qw 1)), (6, (se 20 6)), (1, (sa 21))] z0), bx (lg 0 2 6), bx ac, bx (patch [(0, (qi 4)), (0, (qi 4)), (1, (qw 1)), (0, qt), (0, qa), (28, (qw 2)), (8, (qw 1)), (0, (qw 2)), (6, (se 23 6)), (1, (sa 24)), (0, qt), (0, qt), (0, qt), (0, qt), (0, qt), (2, qt), (0, qt), (0, qt), (245, (.slice 25 7 105 1 15 none))] z0), bx (lg 0 3 5 ++ (ld 0 8)), bx ac, .cells (wl 0 1 7 [(qb 0), qs, qf, qf, qt, qt, qt] ++ (ld 0 8) ++ [(qb 0), qs, qf, qf, qf, qf, qt]) 7 6, bx (patch [(115, (qw 8)), (1, (qw 8))] zb ++ patch [(2, (qb 13)), (112, (qw 8)), (1, (qw 8))] zb), .cells (repeatL zt 7) 6 0, bx [(qb 1), (qw 8), (qb 1), (qb 0), (qb 0), qn]])
def eP8 : Env := upE [(10, (qw 8))] bP
def hP8 : Heap := upH [(0, bx [(.ptr 1 0 0 7), (qb 0), (pg 12), (pg 14), (pg 16), (pg 19), (pg 22), (.slice 26 0 262 0 131 none), (sm 27 6 7)])] hA8
def qC8 (a b c d : Nat) : List Nat := rg 17 ++ [18, 19, 21, a, b, c, d, 27, 28]
def pC8 (r : Nat) : List Nat := if r = 0 then qC8 39 534 42 730 else if r = 1 then qC8 39 458 42 760 else if r = 2 then qC8 39 382 42 790 else if r = 4 then qC8 95 534 98 730 else if r = 5 then qC8 95 458 98 760 else if r = 8 then qC8 151 534 154 730 else qC8 120 464 123 766
def eC8 : Env := upE [(10, (qw 8)), (134, (.agg [.top, qt, .top, .top, .top, .top, qf, .top, .top, .top, .top, qf, .top, .top, .top, .top, qf, .top, .top, .top, .top, qf, .top, .top, .top, .top, qf, .top, .top, .top, .top, .top, .top, .top, .top, .top, .top, .top, .top, .top, .top, .top, .top, .top, .top, .top, .top, .top, .top]))] bC
def hC8 : Heap := (bx [(.ptr 1 0 0 7), (qb 0), (pg 12), (pg 14), (pg 16), (pg 18), (pg 20), (sm 23 0 1), (sm 24 6 7)]) :: (hH ++ [bx zw, bx ac, bx (patch [(0, (qi 1)), (52, (sa 15))] zw), bx ac, bx (patch [(0, (qi 2)), (0, (qi 1)), (2, qt), (48, (sa 17))] zw), bx ac, bx (patch [(0, (qi 3)), (0, (qi 1)), (2, qt), (48, (sa 19))] zw), bx ac, bx (patch [(0, (qi 4)), (0, (qi 4)), (1, (qw 1)), (0, qt), (0, qa), (28, (qw 2)), (8, (qw 1)), (0, (qw 2)), (6, (.slice 21 0 0 6 8 (some 6))), (1, (sa 22)), (0, qt), (0, qt), (0, qt), (0, qt), (0, qt), (2, qt), (0, qt), (0, qt), (99, qt), (48, qt), (48, qt)] z0), bx (lg 0 3 5 ++ (ld 0 8)), bx ac, bx (patch [(124, (qw 8))] zc), .cells (repeatL zt 7) 6 0, bx [(qb 1), (qw 8), (qb 1), (qb 0), (qb 0), qn]])
def pZ8 : List Nat := [0, 1, 4, 5, 20, 21, 25]
def eZ8 : Env := upE [(10, (qw 8)), (134, (.agg [.top, qt, .top, .top, .top, .top, qf, .top, .top, .top, .top, qf, .top, .top, .top, .top, qf, .top, .top, .top, .top, qf, .top, .top, .top, .top, qf, .top, .top, .top, .top, .top, .top, .top, .top, .top, .top, .top, .top, .top, .top, .top, .top, .top, .top, .top, .top, .top, .top]))] bZ
def hZ8 : Heap := [bx [(.ptr 1 0 0 7), (qb 0), .top, .top, .top, .top, (pg 4), .nils, .top], bx [.top, .top, (qw 1), (.slice 2 0 0 1 2 none), .top, .top, .top], bx [(qw 1), (.slice 3 2 0 3 1 none)], .cells ac 2 0, bx (patch [(4, qt), (0, qa), (28, (qw 2)), (8, (qw 1)), (0, (qw 2)), (6, (.slice 5 0 0 6 8 (some 6))), (111, qt), (48, qt), (48, qt)] zz), bx (lg 0 3 5 ++ (ld 0 8)), bx [(qb 1), (qw 8), (qb 1), (qb 0), (qb 0), qn]]
def A8 : Bool := goA 0 7 pA8 eA8 hA8
def B8 (r : Nat) : Bool := goB r eA8 hA8 (pC8 r) eC8 hC8
def Q8 : Bool := goQs eA8 hA8 29 eP8 hP8
def P8 : Bool := goP eP8 hP8 (pC8 2) eC8 hC8
def C8 (_ : Nat) : Bool := goC eC8 hC8 pZ8 eZ8 hZ8
def Z8 (_ : Nat) : Bool := goZ eZ8 hZ8
def pA9 : List Nat := [283, 3, 1, 2, 71, 43, 136, 108, 225, 173, 282, 262, 287, 290, 294, 297, 301, 2719, 304, 308, 2775, 311, 315, 2901, 318, 902, 2934, 1088, 2849]
def eA9 : Env := upE [(10, (qw 9))] bA
def hA9 : Heap := (bx [(.ptr 1 0 0 7), (qb 0), (pg 12), (pg 14), (pg 16), (pg 19), (pg 22), (sm 26 0 2), (sm 27 7 8)]) :: (hH ++ [bx z0, bx ac, bx (patch [(0, (qi 1)), (52, (sa 15))] z0), bx ac, bx (patch [(0, (qi 2)), (0, (qi 1)), (1, (qw 1)), (0, qt), (0, qa), (28, (qw 2)), (8, (qw 1)), (0, (qw 2)), (6, (se 17 6)), (1, (sa 18))] z0), bx (lg 0 3 6), bx ac, bx (patch [(0, (qi 3)), (0, (qi 1)), (1, (qw 1)), (0, qt), (0, qa), (28, (qw 2)), (8, (qw 1)), (0, (qw 2)), (6, (se 20 6)), (1, (sa 21))] z0), bx (lg 0 3 6), bx ac, bx (patch [(0, (qi 4)), (0, (qi 4)), (1, (qw 1)), (0, qt), (0, qa), (28, (qw 3)), (8, (qw 1)), (0, (qw 3)), (6, (se 23 6)), (1, (sa 24)), (0, qt), (0, qt), (0, qt), (0, qt), (0, qt), (2, qt), (0, qt), (0, qt), (245, (.slice 25 8 120 1 15 none))] z0), bx (lg 0 4 5 ++ (ld 0 9)), bx ac, .cells (wl 0 1 8 [(qb 0), qs, qf, qf, qt, qt, qt] ++ (ld 0 9) ++ [(qb 0), qs, qf, qf, qf, qf, qt]) 8 7, bx (patch [(115, (qw 9)), (1, (qw 9))] zb ++ patch [(2, (qb 13)), (112, (qw 9)), (1, (qw 9))] zb), .cells (repeatL zt 8) 7 0, bx [(qb 1), (qw 9), (qb 1), (qb 0), (qb 0), qn]])
def eP9 : Env := upE [(10, (qw 9))] bP
def hP9 : Heap := upH [(0, bx [(.ptr 1 0 0 7), (qb 0), (pg 12), (pg 14), (pg 16), (pg 19), (pg 22), (.slice 26 0 262 0 131 none), (sm 27 7 8)])] hA9
def qC9 (a b c d : Nat) : List Nat := rg 17 ++ [18, 19, 21, a, b, c, d, 27, 28]
def pC9 (r : Nat) : List Nat := if r = 0 then qC9 39 534 42 730 else if r = 1 then qC9 39 458 42 760 else if r = 2 then qC9 39 382 42 790 else if r = 4 then qC9 95 534 98 730 else if r = 5 then qC9 95 458 98 760 else if r = 8 then qC9 151 534 154 730 else qC9 120 464 123 766
def eC9 : Env := upE [(10, (qw 9)), (134, (.agg [.top, qt, .top, .top, .top, .top, qf, .top, .top, .top, .top, qf, .top, .top, .top, .top, qf, .top, .top, .top, .top, qf, .top, .top, .top, .top, qf, .top, .top, .top, .top, .top, .top, .top, .top, .top, .top, .top, .top, .top, .top, .top, .top, .top, .top, .top, .top, .top, .top]))] bC
def hC9 : Heap := (bx [(.ptr 1 0 0 7), (qb 0), (pg 12), (pg 14), (pg 16), (pg 18), (pg 20), (sm 23 0 1), (sm 24 7 8)]) :: (hH ++ [bx zw, bx ac, bx (patch [(0, (qi 1)), (52, (sa 15))] zw), bx ac, bx (patch [(0, (qi 2)), (0, (qi 1)), (2, qt), (48, (sa 17))] zw), bx ac, bx (patch [(0, (qi 3)), (0, (qi 1)), (2, qt), (48, (sa 19))] zw), bx ac, bx (patch [(0, (qi 4)), (0, (qi 4)), (1, (qw 1)), (0, qt), (0, qa), (28, (qw 3)), (8, (qw 1)), (0, (qw 3)), (6, (.slice 21 0 0 6 8 (some 6))), (1, (sa 22)), (0, qt), (0, qt), (0, qt), (0, qt), (0, qt), (2, qt), (0, qt), (0, qt), (99, qt), (48, qt), (48, qt)] z0), bx (lg 0 4 5 ++ (ld 0 9)), bx ac, bx (patch [(124, (qw 9))] zc), .cells (repeatL zt 8) 7 0, bx [(qb 1), (qw 9), (qb 1), (qb 0), (qb 0), qn]])
def pZ9 : List Nat := [0, 1, 4, 5, 20, 21, 25]
def eZ9 : Env := upE [(10, (qw 9)), (134, (.agg [.top, qt, .top, .top, .top, .top, qf, .top, .top, .top, .top, qf, .top, .top, .top, .top, qf, .top, .top, .top, .top, qf, .top, .top, .top, .top, qf, .top, .top, .top, .top, .top, .top, .top, .top, .top, .top, .top, .top, .top, .top, .top, .top, .top, .top, .top, .top, .top, .top]))] bZ
def hZ9 : Heap := [bx [(.ptr 1 0 0 7), (qb 0), .top, .top, .top, .top, (pg 4), .nils, .top], bx [.top, .top, (qw 1), (.slice 2 0 0 1 2 none), .top, .top, .top], bx [(qw 1), (.slice 3 2 0 3 1 none)], .cells ac 2 0, bx (patch [(4, qt), (0, qa), (28, (qw 3)), (8, (qw 1)), (0, (qw 3)), (6, (.slice 5 0 0 6 8 (some 6))), (111, qt), (48, qt), (48, qt)] zz), bx (lg 0 4 5 ++ (ld 0 9)), bx [(qb 1), (qw 9), (qb 1), (qb 0), (qb 0), qn]]
def A9 : Bool := goA 0 8 pA9 eA9 hA9
def B9 (r : Nat) : Bool := goB r eA9 hA9 (pC9 r) eC9 hC9
def Q9 : Bool := goQs eA9 hA9 29 eP9 hP9
def P9 : Bool := goP eP9 hP9 (pC9 2) eC9 hC9
def C9 (_ : Nat) : Bool := goC eC9 hC9 pZ9 eZ9 hZ9
def Z9 (_ : Nat) : Bool := goZ eZ9 hZ9
end
end Go.PE.Ag0
