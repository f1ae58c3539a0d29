/- GroupReads' call, at every input: it returns true, and nothing that was there turns. -/
import Derived.Test.YtcmcijlbmkllpaaGreatDoorRdN
import Derived.Test.YtcmcijlbmkllpaaGreatDoorRdD0
import Derived.Test.YtcmcijlbmkllpaaGreatDoorRdD1
import Derived.Test.YtcmcijlbmkllpaaGreatDoorRdD2
import Derived.Test.YtcmcijlbmkllpaaGreatDoorRdD3
namespace Go.PE
open Go.Proofs Go.RowKit

theorem law_calls (a b c : Int) (ha : 0 ≤ a ∧ a < 256) (hb : 0 ≤ b ∧ b < 256) (hc : 0 ≤ c ∧ c < 256) (W : World) :
    Calls Tryz.prog 3 #[.int .u8 a, .int .u8 b, .int .u8 c] W fun e W' => e = .returned (.bool true) ∧ Below W.heap.size W W' := by
  have ea : a.tmod 4 = a % 4 := Int.tmod_eq_emod_of_nonneg ha.1
  have eb : b.tmod 12 = b % 12 := Int.tmod_eq_emod_of_nonneg hb.1
  have ec : c.tmod 5 = c % 5 := Int.tmod_eq_emod_of_nonneg hc.1
  obtain ⟨n, hn⟩ : ∃ n : Nat, b.tmod 12 = n := ⟨(b % 12).toNat, by rw [eb]; omega⟩
  have hn12 : n < 12 := by rw [eb] at hn; omega
  obtain ⟨w, hw⟩ : ∃ w : Nat, c.tmod 5 = w := ⟨(c % 5).toNat, by rw [ec]; omega⟩
  have hw5 : w < 5 := by rw [ec] at hw; omega
  have hwc : ((w : Nat) : Int).tmod 5 = c.tmod 5 := by
    rw [hw, Int.tmod_eq_emod_of_nonneg (by omega)]; omega
  have h4 : a % 4 = 0 ∨ a % 4 = 1 ∨ a % 4 = 2 ∨ a % 4 = 3 := by omega
  rcases h4 with h | h | h | h
  · exact Rd0.data.calls ha hb hc ⟨by decide, by decide⟩ (by rw [ea, h]; rfl) hw5 hwc hn hn12 W
  · exact Rd1.data.calls ha hb hc ⟨by decide, by decide⟩ (by rw [ea, h]; rfl) hw5 hwc hn hn12 W
  · exact Rd2.data.calls ha hb hc ⟨by decide, by decide⟩ (by rw [ea, h]; rfl) hw5 hwc hn hn12 W
  · exact Rd3.data.calls ha hb hc ⟨by decide, by decide⟩ (by rw [ea, h]; rfl) hw5 hwc hn hn12 W

end Go.PE
