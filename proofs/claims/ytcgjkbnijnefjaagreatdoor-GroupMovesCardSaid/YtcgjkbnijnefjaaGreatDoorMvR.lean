/- GroupMoves' call, at every input: it returns true, and nothing that was there turns. -/
import Derived.Test.YtcgjkbnijnefjaaGreatDoorMvE00
import Derived.Test.YtcgjkbnijnefjaaGreatDoorMvE01
import Derived.Test.YtcgjkbnijnefjaaGreatDoorMvE02
import Derived.Test.YtcgjkbnijnefjaaGreatDoorMvE10
import Derived.Test.YtcgjkbnijnefjaaGreatDoorMvE11
import Derived.Test.YtcgjkbnijnefjaaGreatDoorMvE12
import Derived.Test.YtcgjkbnijnefjaaGreatDoorMvE20
import Derived.Test.YtcgjkbnijnefjaaGreatDoorMvE21
import Derived.Test.YtcgjkbnijnefjaaGreatDoorMvE22
import Derived.Test.YtcgjkbnijnefjaaGreatDoorMvE30
import Derived.Test.YtcgjkbnijnefjaaGreatDoorMvE31
import Derived.Test.YtcgjkbnijnefjaaGreatDoorMvE32
import Derived.Test.YtcgjkbnijnefjaaGreatDoorMvF0
import Derived.Test.YtcgjkbnijnefjaaGreatDoorMvG0
import Derived.Test.YtcgjkbnijnefjaaGreatDoorMvF1
import Derived.Test.YtcgjkbnijnefjaaGreatDoorMvG1
import Derived.Test.YtcgjkbnijnefjaaGreatDoorMvF2
import Derived.Test.YtcgjkbnijnefjaaGreatDoorMvG2
import Derived.Test.YtcgjkbnijnefjaaGreatDoorMvF3
import Derived.Test.YtcgjkbnijnefjaaGreatDoorMvG3
namespace Go.PE
open Go.Proofs Go.RowKit

theorem law_calls (x y z : Int) (b : Bool) (hx : 0 ≤ x ∧ x < 256) (hy : 0 ≤ y ∧ y < 256) (hz : 0 ≤ z ∧ z < 256) (W : World) : Calls Tryz.prog 6 #[.int .u8 x, .int .u8 y, .int .u8 z, .bool b] W fun e W' => e = .returned (.bool true) ∧ Below W.heap.size W W' := by
  have hg : x % 4 = 0 ∨ x % 4 = 1 ∨ x % 4 = 2 ∨ x % 4 = 3 := by omega
  have hw : z % 3 = 0 ∨ z % 3 = 1 ∨ z % 3 = 2 := by omega
  have hn : (y % 9 = ((y % 9).toNat : Int) ∧ (y % 9).toNat < 6) ∨ y % 9 = 6 ∨ y % 9 = 7 ∨ y % 9 = 8 := by omega
  rcases hg with g | g | g | g
  · rcases hw with w | w | w
    · cases b
      · rcases hn with n | n | n | n
        · exact mv_calls Mv0.p00 (Mv0.l00 _ n.2) hx hy hz g n.1 w W
        · exact mv_calls (n := 6) Mv0.p00 Mv0.l00_6 hx hy hz g n w W
        · exact mv_calls (n := 7) Mv0.p00 Mv0.l00_7 hx hy hz g n w W
        · exact mv_calls2 (n := 8) Mv0.p00 Mv0.o00 Mv0.r00 hx hy hz g n w W
      · rcases hn with n | n | n | n
        · exact mv_calls Mv0.p01 (Mv0.l01 _ n.2) hx hy hz g n.1 w W
        · exact mv_calls (n := 6) Mv0.p01 Mv0.l01_6 hx hy hz g n w W
        · exact mv_calls (n := 7) Mv0.p01 Mv0.l01_7 hx hy hz g n w W
        · exact mv_calls2 (n := 8) Mv0.p01 Mv0.o01 Mv0.r01 hx hy hz g n w W
    · cases b
      · rcases hn with n | n | n | n
        · exact mv_calls Mv0.p10 (Mv0.l10 _ n.2) hx hy hz g n.1 w W
        · exact mv_calls (n := 6) Mv0.p10 Mv0.l10_6 hx hy hz g n w W
        · exact mv_calls (n := 7) Mv0.p10 Mv0.l10_7 hx hy hz g n w W
        · exact mv_calls2 (n := 8) Mv0.p10 Mv0.o10 Mv0.r10 hx hy hz g n w W
      · rcases hn with n | n | n | n
        · exact mv_calls Mv0.p11 (Mv0.l11 _ n.2) hx hy hz g n.1 w W
        · exact mv_calls (n := 6) Mv0.p11 Mv0.l11_6 hx hy hz g n w W
        · exact mv_calls (n := 7) Mv0.p11 Mv0.l11_7 hx hy hz g n w W
        · exact mv_calls2 (n := 8) Mv0.p11 Mv0.o11 Mv0.r11 hx hy hz g n w W
    · cases b
      · rcases hn with n | n | n | n
        · exact mv_calls Mv0.p20 (Mv0.l20 _ n.2) hx hy hz g n.1 w W
        · exact mv_calls (n := 6) Mv0.p20 Mv0.l20_6 hx hy hz g n w W
        · exact mv_calls (n := 7) Mv0.p20 Mv0.l20_7 hx hy hz g n w W
        · exact mv_calls2 (n := 8) Mv0.p20 Mv0.o20 Mv0.r20 hx hy hz g n w W
      · rcases hn with n | n | n | n
        · exact mv_calls Mv0.p21 (Mv0.l21 _ n.2) hx hy hz g n.1 w W
        · exact mv_calls (n := 6) Mv0.p21 Mv0.l21_6 hx hy hz g n w W
        · exact mv_calls (n := 7) Mv0.p21 Mv0.l21_7 hx hy hz g n w W
        · exact mv_calls2 (n := 8) Mv0.p21 Mv0.o21 Mv0.r21 hx hy hz g n w W
  · rcases hw with w | w | w
    · cases b
      · rcases hn with n | n | n | n
        · exact mv_calls Mv1.p00 (Mv1.l00 _ n.2) hx hy hz g n.1 w W
        · exact mv_calls (n := 6) Mv1.p00 Mv1.l00_6 hx hy hz g n w W
        · exact mv_calls (n := 7) Mv1.p00 Mv1.l00_7 hx hy hz g n w W
        · exact mv_calls2 (n := 8) Mv1.p00 Mv1.o00 Mv1.r00 hx hy hz g n w W
      · rcases hn with n | n | n | n
        · exact mv_calls Mv1.p01 (Mv1.l01 _ n.2) hx hy hz g n.1 w W
        · exact mv_calls (n := 6) Mv1.p01 Mv1.l01_6 hx hy hz g n w W
        · exact mv_calls (n := 7) Mv1.p01 Mv1.l01_7 hx hy hz g n w W
        · exact mv_calls2 (n := 8) Mv1.p01 Mv1.o01 Mv1.r01 hx hy hz g n w W
    · cases b
      · rcases hn with n | n | n | n
        · exact mv_calls Mv1.p10 (Mv1.l10 _ n.2) hx hy hz g n.1 w W
        · exact mv_calls (n := 6) Mv1.p10 Mv1.l10_6 hx hy hz g n w W
        · exact mv_calls (n := 7) Mv1.p10 Mv1.l10_7 hx hy hz g n w W
        · exact mv_calls2 (n := 8) Mv1.p10 Mv1.o10 Mv1.r10 hx hy hz g n w W
      · rcases hn with n | n | n | n
        · exact mv_calls Mv1.p11 (Mv1.l11 _ n.2) hx hy hz g n.1 w W
        · exact mv_calls (n := 6) Mv1.p11 Mv1.l11_6 hx hy hz g n w W
        · exact mv_calls (n := 7) Mv1.p11 Mv1.l11_7 hx hy hz g n w W
        · exact mv_calls2 (n := 8) Mv1.p11 Mv1.o11 Mv1.r11 hx hy hz g n w W
    · cases b
      · rcases hn with n | n | n | n
        · exact mv_calls Mv1.p20 (Mv1.l20 _ n.2) hx hy hz g n.1 w W
        · exact mv_calls (n := 6) Mv1.p20 Mv1.l20_6 hx hy hz g n w W
        · exact mv_calls (n := 7) Mv1.p20 Mv1.l20_7 hx hy hz g n w W
        · exact mv_calls2 (n := 8) Mv1.p20 Mv1.o20 Mv1.r20 hx hy hz g n w W
      · rcases hn with n | n | n | n
        · exact mv_calls Mv1.p21 (Mv1.l21 _ n.2) hx hy hz g n.1 w W
        · exact mv_calls (n := 6) Mv1.p21 Mv1.l21_6 hx hy hz g n w W
        · exact mv_calls (n := 7) Mv1.p21 Mv1.l21_7 hx hy hz g n w W
        · exact mv_calls2 (n := 8) Mv1.p21 Mv1.o21 Mv1.r21 hx hy hz g n w W
  · rcases hw with w | w | w
    · cases b
      · rcases hn with n | n | n | n
        · exact mv_calls Mv2.p00 (Mv2.l00 _ n.2) hx hy hz g n.1 w W
        · exact mv_calls (n := 6) Mv2.p00 Mv2.l00_6 hx hy hz g n w W
        · exact mv_calls (n := 7) Mv2.p00 Mv2.l00_7 hx hy hz g n w W
        · exact mv_calls2 (n := 8) Mv2.p00 Mv2.o00 Mv2.r00 hx hy hz g n w W
      · rcases hn with n | n | n | n
        · exact mv_calls Mv2.p01 (Mv2.l01 _ n.2) hx hy hz g n.1 w W
        · exact mv_calls (n := 6) Mv2.p01 Mv2.l01_6 hx hy hz g n w W
        · exact mv_calls (n := 7) Mv2.p01 Mv2.l01_7 hx hy hz g n w W
        · exact mv_calls2 (n := 8) Mv2.p01 Mv2.o01 Mv2.r01 hx hy hz g n w W
    · cases b
      · rcases hn with n | n | n | n
        · exact mv_calls Mv2.p10 (Mv2.l10 _ n.2) hx hy hz g n.1 w W
        · exact mv_calls (n := 6) Mv2.p10 Mv2.l10_6 hx hy hz g n w W
        · exact mv_calls (n := 7) Mv2.p10 Mv2.l10_7 hx hy hz g n w W
        · exact mv_calls2 (n := 8) Mv2.p10 Mv2.o10 Mv2.r10 hx hy hz g n w W
      · rcases hn with n | n | n | n
        · exact mv_calls Mv2.p11 (Mv2.l11 _ n.2) hx hy hz g n.1 w W
        · exact mv_calls (n := 6) Mv2.p11 Mv2.l11_6 hx hy hz g n w W
        · exact mv_calls (n := 7) Mv2.p11 Mv2.l11_7 hx hy hz g n w W
        · exact mv_calls2 (n := 8) Mv2.p11 Mv2.o11 Mv2.r11 hx hy hz g n w W
    · cases b
      · rcases hn with n | n | n | n
        · exact mv_calls Mv2.p20 (Mv2.l20 _ n.2) hx hy hz g n.1 w W
        · exact mv_calls (n := 6) Mv2.p20 Mv2.l20_6 hx hy hz g n w W
        · exact mv_calls (n := 7) Mv2.p20 Mv2.l20_7 hx hy hz g n w W
        · exact mv_calls2 (n := 8) Mv2.p20 Mv2.o20 Mv2.r20 hx hy hz g n w W
      · rcases hn with n | n | n | n
        · exact mv_calls Mv2.p21 (Mv2.l21 _ n.2) hx hy hz g n.1 w W
        · exact mv_calls (n := 6) Mv2.p21 Mv2.l21_6 hx hy hz g n w W
        · exact mv_calls (n := 7) Mv2.p21 Mv2.l21_7 hx hy hz g n w W
        · exact mv_calls2 (n := 8) Mv2.p21 Mv2.o21 Mv2.r21 hx hy hz g n w W
  · rcases hw with w | w | w
    · cases b
      · rcases hn with n | n | n | n
        · exact mv_calls Mv3.p00 (Mv3.l00 _ n.2) hx hy hz g n.1 w W
        · exact mv_calls (n := 6) Mv3.p00 Mv3.l00_6 hx hy hz g n w W
        · exact mv_calls (n := 7) Mv3.p00 Mv3.l00_7 hx hy hz g n w W
        · exact mv_calls2 (n := 8) Mv3.p00 Mv3.o00 Mv3.r00 hx hy hz g n w W
      · rcases hn with n | n | n | n
        · exact mv_calls Mv3.p01 (Mv3.l01 _ n.2) hx hy hz g n.1 w W
        · exact mv_calls (n := 6) Mv3.p01 Mv3.l01_6 hx hy hz g n w W
        · exact mv_calls (n := 7) Mv3.p01 Mv3.l01_7 hx hy hz g n w W
        · exact mv_calls2 (n := 8) Mv3.p01 Mv3.o01 Mv3.r01 hx hy hz g n w W
    · cases b
      · rcases hn with n | n | n | n
        · exact mv_calls Mv3.p10 (Mv3.l10 _ n.2) hx hy hz g n.1 w W
        · exact mv_calls (n := 6) Mv3.p10 Mv3.l10_6 hx hy hz g n w W
        · exact mv_calls (n := 7) Mv3.p10 Mv3.l10_7 hx hy hz g n w W
        · exact mv_calls2 (n := 8) Mv3.p10 Mv3.o10 Mv3.r10 hx hy hz g n w W
      · rcases hn with n | n | n | n
        · exact mv_calls Mv3.p11 (Mv3.l11 _ n.2) hx hy hz g n.1 w W
        · exact mv_calls (n := 6) Mv3.p11 Mv3.l11_6 hx hy hz g n w W
        · exact mv_calls (n := 7) Mv3.p11 Mv3.l11_7 hx hy hz g n w W
        · exact mv_calls2 (n := 8) Mv3.p11 Mv3.o11 Mv3.r11 hx hy hz g n w W
    · cases b
      · rcases hn with n | n | n | n
        · exact mv_calls Mv3.p20 (Mv3.l20 _ n.2) hx hy hz g n.1 w W
        · exact mv_calls (n := 6) Mv3.p20 Mv3.l20_6 hx hy hz g n w W
        · exact mv_calls (n := 7) Mv3.p20 Mv3.l20_7 hx hy hz g n w W
        · exact mv_calls2 (n := 8) Mv3.p20 Mv3.o20 Mv3.r20 hx hy hz g n w W
      · rcases hn with n | n | n | n
        · exact mv_calls Mv3.p21 (Mv3.l21 _ n.2) hx hy hz g n.1 w W
        · exact mv_calls (n := 6) Mv3.p21 Mv3.l21_6 hx hy hz g n w W
        · exact mv_calls (n := 7) Mv3.p21 Mv3.l21_7 hx hy hz g n w W
        · exact mv_calls2 (n := 8) Mv3.p21 Mv3.o21 Mv3.r21 hx hy hz g n w W

end Go.PE
