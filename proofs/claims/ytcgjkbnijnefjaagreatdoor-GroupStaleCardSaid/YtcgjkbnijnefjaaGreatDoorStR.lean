/- GroupStale's call, at every input: it returns true, and nothing that was there turns. -/
import Derived.Test.YtcgjkbnijnefjaaGreatDoorStQ
import Derived.Test.YtcgjkbnijnefjaaGreatDoorStD0a
import Derived.Test.YtcgjkbnijnefjaaGreatDoorStD0b
import Derived.Test.YtcgjkbnijnefjaaGreatDoorStD1a
import Derived.Test.YtcgjkbnijnefjaaGreatDoorStD1b
import Derived.Test.YtcgjkbnijnefjaaGreatDoorStD2a
import Derived.Test.YtcgjkbnijnefjaaGreatDoorStD2b
import Derived.Test.YtcgjkbnijnefjaaGreatDoorStD3a
import Derived.Test.YtcgjkbnijnefjaaGreatDoorStD3b
namespace Go.PE
open Go.Proofs Go.RowKit

theorem law_calls {a b : Int} (ha : 0 ≤ a ∧ a < 256) (hb : 0 ≤ b ∧ b < 256) {pv : V} {L : Nat} (hp : Picks pv L) {W : World} {x : Value} (hx : VR (Ren.view W) pv x) :
    Calls Tryz.prog 7 #[.int .u8 a, .int .u8 b, x] W fun e W' => e = .returned (.bool true) ∧ Below W.heap.size W W' := by
  have hg : a % 4 = 0 ∨ a % 4 = 1 ∨ a % 4 = 2 ∨ a % 4 = 3 := by omega
  have hr : b % 6 = 0 ∨ b % 6 = 1 ∨ b % 6 = 2 ∨ b % 6 = 3 ∨ b % 6 = 4 ∨ b % 6 = 5 := by omega
  rcases hg with g | g | g | g
  · rcases hr with r | r | r | r | r | r
    · exact St0.data0.calls ha hb g r hp hx
    · exact St0.data1.calls ha hb g r hp hx
    · exact St0.data2.calls ha hb g r hp hx
    · exact St0.data3.calls ha hb g r hp hx
    · exact St0.data4.calls ha hb g r hp hx
    · exact St0.data5.calls ha hb g r hp hx
  · rcases hr with r | r | r | r | r | r
    · exact St1.data0.calls ha hb g r hp hx
    · exact St1.data1.calls ha hb g r hp hx
    · exact St1.data2.calls ha hb g r hp hx
    · exact St1.data3.calls ha hb g r hp hx
    · exact St1.data4.calls ha hb g r hp hx
    · exact St1.data5.calls ha hb g r hp hx
  · rcases hr with r | r | r | r | r | r
    · exact St2.data0.calls ha hb g r hp hx
    · exact St2.data1.calls ha hb g r hp hx
    · exact St2.data2.calls ha hb g r hp hx
    · exact St2.data3.calls ha hb g r hp hx
    · exact St2.data4.calls ha hb g r hp hx
    · exact St2.data5.calls ha hb g r hp hx
  · rcases hr with r | r | r | r | r | r
    · exact St3.data0.calls ha hb g r hp hx
    · exact St3.data1.calls ha hb g r hp hx
    · exact St3.data2.calls ha hb g r hp hx
    · exact St3.data3.calls ha hb g r hp hx
    · exact St3.data4.calls ha hb g r hp hx
    · exact St3.data5.calls ha hb g r hp hx

end Go.PE
