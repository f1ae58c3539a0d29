/- GroupAgain's call, at every input: it returns true, and nothing that was there turns. -/
import Derived.Test.YtcgjkbnijnefjaaGreatDoorAgE00
import Derived.Test.YtcgjkbnijnefjaaGreatDoorAgE01
import Derived.Test.YtcgjkbnijnefjaaGreatDoorAgE02
import Derived.Test.YtcgjkbnijnefjaaGreatDoorAgE03
import Derived.Test.YtcgjkbnijnefjaaGreatDoorAgE10
import Derived.Test.YtcgjkbnijnefjaaGreatDoorAgE11
import Derived.Test.YtcgjkbnijnefjaaGreatDoorAgE12
import Derived.Test.YtcgjkbnijnefjaaGreatDoorAgE13
import Derived.Test.YtcgjkbnijnefjaaGreatDoorAgE20
import Derived.Test.YtcgjkbnijnefjaaGreatDoorAgE21
import Derived.Test.YtcgjkbnijnefjaaGreatDoorAgE22
import Derived.Test.YtcgjkbnijnefjaaGreatDoorAgE23
import Derived.Test.YtcgjkbnijnefjaaGreatDoorAgE30
import Derived.Test.YtcgjkbnijnefjaaGreatDoorAgE31
import Derived.Test.YtcgjkbnijnefjaaGreatDoorAgE32
import Derived.Test.YtcgjkbnijnefjaaGreatDoorAgE33
namespace Go.PE
open Go.Proofs Go.RowKit

theorem law_calls (x y z : Int) {s : ByteArray} (hx : 0 ≤ x ∧ x < 256) (hy : 0 ≤ y ∧ y < 256) (hz : 0 ≤ z ∧ z < 256) (hs : s.size ≤ 9223372036854775807) (W : World) : Goes #[.int .u8 x, .int .u8 y, .int .u8 z, .string s] W := by
  by_cases h16 : s.size ≤ 16
  · have hg : x % 4 = 0 ∨ x % 4 = 1 ∨ x % 4 = 2 ∨ x % 4 = 3 := by omega
    have hn : y % 9 = 0 ∨ y % 9 = 1 ∨ y % 9 = 2 ∨ y % 9 = 3 ∨ y % 9 = 4 ∨ y % 9 = 5 ∨ y % 9 = 6 ∨ y % 9 = 7 ∨ y % 9 = 8 := by omega
    have hr : z % 12 = ((z % 12).toNat : Int) := by omega
    have hlt : (z % 12).toNat < 12 := by omega
    rcases hg with g | g | g | g
    · rcases hn with n | n | n | n | n | n | n | n | n
      · exact ag_calls (n := 0) (Ag0.go1 h16 hlt) hx hy hz g n hr h16 W
      · exact ag_calls (n := 1) (Ag0.go2 h16 hlt) hx hy hz g n hr h16 W
      · exact ag_calls (n := 2) (Ag0.go3 h16 hlt) hx hy hz g n hr h16 W
      · exact ag_calls (n := 3) (Ag0.go4 h16 hlt) hx hy hz g n hr h16 W
      · exact ag_calls (n := 4) (Ag0.go5 h16 hlt) hx hy hz g n hr h16 W
      · exact ag_calls (n := 5) (Ag0.go6 h16 hlt) hx hy hz g n hr h16 W
      · exact ag_calls (n := 6) (Ag0.go7 h16 hlt) hx hy hz g n hr h16 W
      · exact ag_calls (n := 7) (Ag0.go8 h16 hlt) hx hy hz g n hr h16 W
      · exact ag_calls (n := 8) (Ag0.go9 h16 hlt) hx hy hz g n hr h16 W
    · rcases hn with n | n | n | n | n | n | n | n | n
      · exact ag_calls (n := 0) (Ag1.go1 h16 hlt) hx hy hz g n hr h16 W
      · exact ag_calls (n := 1) (Ag1.go2 h16 hlt) hx hy hz g n hr h16 W
      · exact ag_calls (n := 2) (Ag1.go3 h16 hlt) hx hy hz g n hr h16 W
      · exact ag_calls (n := 3) (Ag1.go4 h16 hlt) hx hy hz g n hr h16 W
      · exact ag_calls (n := 4) (Ag1.go5 h16 hlt) hx hy hz g n hr h16 W
      · exact ag_calls (n := 5) (Ag1.go6 h16 hlt) hx hy hz g n hr h16 W
      · exact ag_calls (n := 6) (Ag1.go7 h16 hlt) hx hy hz g n hr h16 W
      · exact ag_calls (n := 7) (Ag1.go8 h16 hlt) hx hy hz g n hr h16 W
      · exact ag_calls (n := 8) (Ag1.go9 h16 hlt) hx hy hz g n hr h16 W
    · rcases hn with n | n | n | n | n | n | n | n | n
      · exact ag_calls (n := 0) (Ag2.go1 h16 hlt) hx hy hz g n hr h16 W
      · exact ag_calls (n := 1) (Ag2.go2 h16 hlt) hx hy hz g n hr h16 W
      · exact ag_calls (n := 2) (Ag2.go3 h16 hlt) hx hy hz g n hr h16 W
      · exact ag_calls (n := 3) (Ag2.go4 h16 hlt) hx hy hz g n hr h16 W
      · exact ag_calls (n := 4) (Ag2.go5 h16 hlt) hx hy hz g n hr h16 W
      · exact ag_calls (n := 5) (Ag2.go6 h16 hlt) hx hy hz g n hr h16 W
      · exact ag_calls (n := 6) (Ag2.go7 h16 hlt) hx hy hz g n hr h16 W
      · exact ag_calls (n := 7) (Ag2.go8 h16 hlt) hx hy hz g n hr h16 W
      · exact ag_calls (n := 8) (Ag2.go9 h16 hlt) hx hy hz g n hr h16 W
    · rcases hn with n | n | n | n | n | n | n | n | n
      · exact ag_calls (n := 0) (Ag3.go1 h16 hlt) hx hy hz g n hr h16 W
      · exact ag_calls (n := 1) (Ag3.go2 h16 hlt) hx hy hz g n hr h16 W
      · exact ag_calls (n := 2) (Ag3.go3 h16 hlt) hx hy hz g n hr h16 W
      · exact ag_calls (n := 3) (Ag3.go4 h16 hlt) hx hy hz g n hr h16 W
      · exact ag_calls (n := 4) (Ag3.go5 h16 hlt) hx hy hz g n hr h16 W
      · exact ag_calls (n := 5) (Ag3.go6 h16 hlt) hx hy hz g n hr h16 W
      · exact ag_calls (n := 6) (Ag3.go7 h16 hlt) hx hy hz g n hr h16 W
      · exact ag_calls (n := 7) (Ag3.go8 h16 hlt) hx hy hz g n hr h16 W
      · exact ag_calls (n := 8) (Ag3.go9 h16 hlt) hx hy hz g n hr h16 W
  · exact long_calls (by omega) hs W

end Go.PE
