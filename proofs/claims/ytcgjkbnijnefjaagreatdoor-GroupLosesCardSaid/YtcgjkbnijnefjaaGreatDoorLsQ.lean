/- GroupLoses: what is to be lost, as a caller hands it in. -/
import Derived.Test.YtcgjkbnijnefjaaGreatDoorLsN
namespace Go.PE
open Go.Proofs Go.RowKit

theorem Truths.nil : Truths 0 .nils := ⟨rfl, fun _ => rfl, fun a h => absurd h (by omega)⟩

theorem plain_bools (B : Nat → Bool) (l : List Nat) : V.plainL (l.map fun i => V.bool (B i)) = true := by
  induction l with
  | nil => rfl
  | cons a l ih => exact ih

theorem Truths.row (B : Nat → Bool) (n : Nat) : Truths n (.psl n ((List.range n).map fun i => V.bool (B i))) := by
  refine ⟨rfl, fun μ => ?_, fun a ha => ⟨B a, ?_⟩⟩
  · show (if V.plainL ((List.range n).map fun i => V.bool (B i)) = true then some (V.psl n ((List.range n).map fun i => V.bool (B i))) else none) = _
    rw [if_pos (plain_bools B _)]
  · show (if 0 ≤ (a : Int) ∧ (a : Int) < (n : Int) then some (V.pptr ((((List.range n).map fun i => V.bool (B i)).drop ((a : Int).toNat * 1)).take 1)) else none) = _
    rw [if_pos ⟨by omega, by omega⟩, Nat.mul_one, Int.toNat_natCast, List.drop_eq_getElem_cons (by simpa using ha), List.take_succ_cons, List.take_zero, List.getElem_map, List.getElem_range]

/-- A row of truths as it lies in memory. -/
theorem VR.truths {W : World} {s : ByteArray} {b o n c : Nat} {B : Nat → Bool} (hn : n ≤ c) (hl : ∀ i, i < n → W.cell? ⟨b, o + i, none⟩ = some (.bool (B i))) : VR (viewS W s) (.psl n ((List.range n).map fun i => V.bool (B i))) (.slice (some ⟨b, o, none⟩) n c) := by
  refine .psl (fun j x hx => ?_) hn
  rw [List.getElem?_map, Option.map_eq_some_iff] at hx
  obtain ⟨z, hz, rfl⟩ := hx
  obtain ⟨hj, rfl⟩ := List.getElem?_eq_some_iff.1 hz
  have hj : j < n := by simpa using hj
  have h := hl j hj
  unfold World.cell? at h
  simp only [viewS, Ren.view]
  split at h
  · rename_i c _ _ hb
    rw [hb]
    simp only [Option.isSome_none, Bool.false_eq_true, if_false] at h
    simp only [h, Option.bind_some, absOf, List.getElem_range]
  · simp at h

end Go.PE
