/- GroupStale's call, from a class's data; the list of picks as a caller hands it in. -/
import Derived.Test.YtcgjkbnijnefjaaGreatDoorStM
import Derived.Test.YtcgjkbnijnefjaaGreatDoorV1
import Derived.KernelRfl
namespace Go.PE
open Go.Proofs Go.RowKit
set_option maxRecDepth 100000

theorem st_lit : cFunc Tryz.prog Tryz.f7 = some lit7 := by
  have h := lit7_ok
  unfold funcE at h
  split at h
  · rw [show Tryz.prog.funcs[7]? = some Tryz.f7 from Tryz.func7] at h; exact h
  · simp at h

theorem Picks.nil : Picks .nils 0 := ⟨rfl, fun _ => rfl, fun i h => absurd h (by omega)⟩

theorem plain_u8 (zs : List Int) : V.plainL (zs.map fun n => V.int .u8 n) = true := by
  induction zs with
  | nil => rfl
  | cons a l ih => exact ih

theorem Picks.psl {zs : List Int} {L : Nat} (hz : zs.length = L) (hb : ∀ n ∈ zs, 0 ≤ n ∧ n < 256) : Picks (.psl L (zs.map fun n => V.int .u8 n)) L := by
  refine ⟨rfl, fun π => ?_, fun i hi => ?_⟩
  · show (if V.plainL (zs.map fun n => V.int .u8 n) = true then some (V.psl L (zs.map fun n => V.int .u8 n)) else none) = _
    rw [if_pos (plain_u8 zs)]
  · have hi' : i < zs.length := by omega
    obtain ⟨h0, h1⟩ := hb zs[i] (List.getElem_mem hi')
    refine ⟨zs[i].toNat, by omega, ?_⟩
    show (if 0 ≤ (i : Int) ∧ (i : Int) < (L : Int) then some (V.pptr (((zs.map fun n => V.int .u8 n).drop ((i : Int).toNat * 1)).take 1)) else none) = _
    rw [if_pos ⟨by omega, by omega⟩, Nat.mul_one, Int.toNat_natCast, List.drop_eq_getElem_cons (by simpa using hi'), List.take_succ_cons, List.take_zero, List.getElem_map, Int.toNat_of_nonneg h0]

/-- A list of picks as it lies in memory. -/
theorem VR.picks {W : World} {b o n c : Nat} {zs : List Int} (hn : n ≤ c) (hl : ∀ i, i < zs.length → W.cell? ⟨b, o + i, none⟩ = some (.int .u8 (zs.getD i 0))) : VR (Ren.view W) (.psl n (zs.map fun n => V.int .u8 n)) (.slice (some ⟨b, o, none⟩) n c) := by
  refine .psl (fun j x hx => ?_) hn
  rw [List.getElem?_map, Option.map_eq_some_iff] at hx
  obtain ⟨z, hz, rfl⟩ := hx
  obtain ⟨hj, rfl⟩ := List.getElem?_eq_some_iff.1 hz
  have h := hl j hj
  rw [show zs.getD j 0 = zs[j] by simp [List.getD, hz]] at h
  unfold World.cell? at h
  simp only [Ren.view]
  split at h
  · rename_i c _ _ hb
    rw [hb]
    simp only [Option.isSome_none, Bool.false_eq_true, if_false] at h
    simp only [h, Option.bind_some, absOf]
  · simp at h

theorem StData.calls {g r : Nat} {eP : Env} {HP : Heap} {π : List Nat} {all : V} {M : Nat} {dead : Nat → List V} (D : StData g r eP HP π all M dead) {a b : Int} (ha : 0 ≤ a ∧ a < 256) (hb : 0 ≤ b ∧ b < 256) (hg : a % 4 = g) (hr : b % 6 = r)
    {pv : V} {L : Nat} (hp : Picks pv L) {W : World} {x : Value} (hx : VR (Ren.view W) pv x) : Calls Tryz.prog 7 #[.int .u8 a, .int .u8 b, x] W fun e W' => e = .returned (.bool true) ∧ Below W.heap.size W W' := by
  obtain ⟨e', H', h1, h2⟩ := st_all D hp
  refine good_callsV (fn := Tryz.f7) (ef := lit7) (t := 6) Tryz.func7 st_lit rfl (args := [modV .u8 4 g, modV .u8 6 r, pv]) (.cons (modV_ok ha.1 ha.2 (by decide) hg) (.cons (modV_ok hb.1 hb.2 (by decide) hr) (.cons hx .nil))) (show 3 ≤ 169 by decide) (.inr rfl) h1 h2

end Go.PE
