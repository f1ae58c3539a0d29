/- GroupStray's call, at every input: it returns true, and nothing that was there turns. -/
import Derived.Test.YtcgjkbnijnefjaaGreatDoorSrQ
import Derived.Test.YtcgjkbnijnefjaaGreatDoorSrE0a
import Derived.Test.YtcgjkbnijnefjaaGreatDoorSrE0b
import Derived.Test.YtcgjkbnijnefjaaGreatDoorSrE1a
import Derived.Test.YtcgjkbnijnefjaaGreatDoorSrE1b
import Derived.Test.YtcgjkbnijnefjaaGreatDoorSrE2a
import Derived.Test.YtcgjkbnijnefjaaGreatDoorSrE2b
import Derived.Test.YtcgjkbnijnefjaaGreatDoorSrE3a
import Derived.Test.YtcgjkbnijnefjaaGreatDoorSrE3b
namespace Go.PE
open Go.Proofs Go.RowKit

theorem law_calls {x y z cl sq kd ob a : Int} {s : ByteArray} (hx : 0 ≤ x ∧ x < 256) (hy : 0 ≤ y ∧ y < 256) (hz : 0 ≤ z ∧ z < 4294967296)
    (hcl : 0 ≤ cl ∧ cl < 256) (hsq : 0 ≤ sq ∧ sq < 4294967296) (hkd : 0 ≤ kd ∧ kd < 256) (hob : 0 ≤ ob ∧ ob < 256) (ha : 0 ≤ a ∧ a < 256) (hs : s.size ≤ 9223372036854775807) (W : World) :
    Goes #[.int .u8 x, .int .u8 y, .int .u32 z, .agg #[.int .u8 cl, .int .u32 sq, .int .u8 kd, .int .u8 ob, .int .u8 a, .string s]] W := by
  rcases op_class hcl hsq hkd hob ha hs with ⟨co, hm, hco⟩ | ⟨k, o, hk, ho, hco⟩
  · exact no_calls hm hx hy hz hco W
  · have hg : x % 4 = 0 ∨ x % 4 = 1 ∨ x % 4 = 2 ∨ x % 4 = 3 := by omega
    rcases hg with g | g | g | g
    · exact yes_calls Sr0.data (fun f z k hf hk => match z with | false => Sr0.rr_false f k hf hk | true => Sr0.rr_true f k hf hk) hx hy hz g hk ho hco W
    · exact yes_calls Sr1.data (fun f z k hf hk => match z with | false => Sr1.rr_false f k hf hk | true => Sr1.rr_true f k hf hk) hx hy hz g hk ho hco W
    · exact yes_calls Sr2.data (fun f z k hf hk => match z with | false => Sr2.rr_false f k hf hk | true => Sr2.rr_true f k hf hk) hx hy hz g hk ho hco W
    · exact yes_calls Sr3.data (fun f z k hf hk => match z with | false => Sr3.rr_false f k hf hk | true => Sr3.rr_true f k hf hk) hx hy hz g hk ho hco W

end Go.PE
