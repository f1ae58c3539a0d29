/- The shortcut for slices.AppendSeq stands in this program. -/
import Derived.Test.YtmdnkhidhkbgcaaGreatDoorDbW1
import Derived.Test.YtmdnkhidhkbgcaaGreatDoorEF
import Derived.KernelRfl
namespace Go.PE
open Go.Proofs
theorem vrl_ints {R : Ren} : ∀ {zs : List Int} {xs : List Value}, VRL R (zs.map (V.int .i64)) xs → xs = zs.map (Value.int .i64)
  | [], _, .nil => rfl
  | z :: zs, _, .cons (.int _ _) h => by rw [vrl_ints h]; rfl
theorem ints_vrl (R : Ren) : ∀ (zs : List Int), VRL R (zs.map (V.int .i64)) (zs.map (Value.int .i64))
  | [] => .nil
  | _ :: zs => .cons (.int _ _) (ints_vrl R zs)
theorem callable149 : callable Tryz.prog 149 = true := by kernel_rfl
theorem appSeq_ok (f : FuncId) : CallOK Tryz.prog f (heapE (appSeqG 149 100) f) := by
  intro R H H' w args args' v h hargs hrel
  unfold heapE at h
  rw [Option.map_eq_some_iff] at h
  obtain ⟨p, h, hp⟩ := h
  unfold appSeqG at h
  by_cases hf : Nat.beq f 149 = true
  · rw [hf] at h
    have hf := Nat.eq_of_beq_eq_true hf
    subst hf
    simp only [cond_true] at h
    split at h
    · rename_i g1 b1 v1 off1 ext1
      split at h
      · rename_i hg1
        subst hg1
        refine ⟨callable149, ?_⟩
        -- the arguments
        obtain ⟨a0, a1, ha, hloc1⟩ : ∃ (L : Loc) (_ : R.loc b1 v1 = some L), args' = #[.slice none 0 0, .func (.func 100) #[] #[.pointer (some ⟨L.r, off1 + L.sh - L.lo, none⟩)]] ∧ (L.lo ≤ off1 ∧ off1 + ext1 ≤ L.hi) := by
          obtain ⟨l⟩ := args'
          cases hargs with
          | cons x1 r1 =>
            cases r1 with
            | cons x2 r2 =>
              cases r2 with
              | nil =>
                cases x1 with
                | nils =>
                  cases x2 with
                  | fn y1 y2 =>
                    rename_i a' c'
                    obtain ⟨la⟩ := a'
                    obtain ⟨lc⟩ := c'
                    cases y1 with
                    | nil =>
                      cases y2 with
                      | cons z1 z2 =>
                        cases z2 with
                        | nil =>
                          cases z1 with
                          | ptr e1 e2 e3 => exact ⟨_, e1, rfl, e2, e3⟩
        subst ha
        have hL1 : a0.r < w.heap.size := hrel.lt a1
        -- the slice in its cell
        have load1 : ∀ sv, loadG (H[·]?) false 1 (.ptr b1 v1 off1 ext1) = some sv → ∃ y, VR R sv y ∧ w.cell? ⟨a0.r, off1 + a0.sh - a0.lo, none⟩ = some y := by
          intro sv hs
          rw [← loadG_eq] at hs
          simp only [loadE] at hs
          split at hs
          · rename_i hext
            rw [Option.bind_eq_some_iff] at hs
            obtain ⟨cs, hc1, hc2⟩ := hs
            obtain ⟨k1, xs, k2, k3⟩ := hrel.read a1 hloc1.1 (by omega) hc1
            simp only [mk, Bool.false_eq_true, if_false] at hc2
            split at hc2
            · rename_i v0
              simp only [Option.some.injEq] at hc2
              subst hc2
              cases k2 with
              | cons z1 z2 =>
                rename_i y ys
                refine ⟨y, z1, ?_⟩
                have := k3 0 y rfl
                rw [addr_add] at this
                simpa using this
            · simp at hc2
          · simp at hs
        split at h
        · -- nil
          rename_i hl
          obtain ⟨y, hy, hcell⟩ := load1 _ hl
          cases hy
          simp only [Option.some.injEq] at h
          subst h
          simp only [Upd.done, Upd.on, Prod.mk.injEq] at hp
          obtain ⟨rfl, rfl⟩ := hp
          have hC := (callsIn_wide (n := 3)).1 (Tryz.appendSeq_in Fence.wide 3 trivial trivial rfl (Nat.le_refl _) a0.r (off1 + a0.sh - a0.lo) _ [] (Nat.zero_le _) (by simp) w hL1 hcell (.inl ⟨rfl, rfl⟩))
          refine hC.mono ?_
          rintro e W' ⟨v', rfl, _, hnil, hB⟩
          obtain rfl := hnil.2 rfl
          have hk : ∀ r, r < w.heap.size → W'.heap[r]? = w.heap[r]? := hB.block
          exact ⟨_, R, rfl, ⟨.refl R, hB.os, hB.tape, hB.output, hB.size, fun r hr _ _ => hk r hr, fun _ v L h => .inl ⟨v, L, h, rfl⟩, fun _ _ h => .inl h, fun _ _ _ h => .inl h⟩, hrel.stood hk, .nils, .refl R _⟩
        · rename_i b2 v2 off2 len es cap hl
          obtain ⟨y, hy, hcell⟩ := load1 _ hl
          split at h
          · rename_i cs hcs
            split at h
            · rename_i hc
              obtain ⟨hc1, hc2, hc3⟩ := hc
              obtain ⟨zs, rfl⟩ := isI64_list hc3
              simp only [Option.some.injEq] at h
              subst h
              simp only [Upd.done, Upd.on, Prod.mk.injEq] at hp
              obtain ⟨rfl, rfl⟩ := hp
              rw [← firstG_eq] at hcs
              simp only [firstE] at hcs
              split at hcs
              · rename_i hes
                obtain ⟨hes, _⟩ := hes
                subst hes
                rw [Nat.mul_one] at hcs
                cases hy with
                | slice e1 e2 e3 e4 e5 e6 =>
                  rename_i c L2
                  rw [Nat.mul_one] at e3
                  obtain ⟨k1, xs, k2, k3⟩ := hrel.read e1 e2 e3 hcs
                  obtain rfl := vrl_ints k2
                  rw [List.length_map] at k1
                  subst k1
                  have hI : Tryz.Ints w.heap.size w (.slice (some ⟨L2.r, off2 + L2.sh - L2.lo, none⟩) zs.length c) zs := by
                    refine .inr ⟨_, _, _, rfl, hrel.lt e1, fun j hj => ?_⟩
                    have := k3 j (.int .i64 (zs[j]?.getD 0)) (by simp [hj])
                    rw [addr_add] at this
                    exact this
                  have hC := (callsIn_wide (n := 3)).1 (Tryz.appendSeq_in Fence.wide 3 trivial trivial rfl (Nat.le_refl _) a0.r (off1 + a0.sh - a0.lo) _ zs (by simp [maxLen]; omega) (by omega) w hL1 hcell hI)
                  refine hC.mono ?_
                  rintro e W' ⟨v', rfl, hrow, hnil, hB⟩
                  have hk : ∀ r, r < w.heap.size → W'.heap[r]? = w.heap[r]? := hB.block
                  rcases hrow.2 with ⟨rfl, hz⟩ | ⟨gb, cap', cur, rfl, hbase, hgb, r1, r2, r3, r4⟩
                  · omega
                  · rw [Nat.mul_one] at r3 r4
                    have hb := hrel.none_of_get (b := H.length) (by simp)
                    obtain ⟨q1, q2⟩ := hrel.place (g' := ((H ++ [Box.cells (zs.map (V.int .i64)) 0 0])[·]?)) hb.1 hb.2 (cs := zs.map (V.int .i64)) (c := cur) (t := 3) 0 (by simp)
                      (fun k hk hd => by
                        have hlt : k < H.length := by
                          rcases hd with ⟨v, L, e⟩ | ⟨r, e⟩
                          · obtain ⟨_, _, _, _, _, hg, _⟩ := hrel.loc k v L e
                            exact (List.getElem?_eq_some_iff.1 hg).1
                          · obtain ⟨_, _, _, hg, _⟩ := hrel.mp k r e
                            exact (List.getElem?_eq_some_iff.1 hg).1
                        simp [List.getElem?_append_left hlt])
                      (by simp [V.one]) (by rw [List.length_map]; omega) (by rw [List.length_map, List.drop_zero, r4]; exact ints_vrl R zs) hB.os hB.tape hB.output hB.size hk hbase hgb
                    refine ⟨_, _, rfl, q2, q1, ?_, .push _ fun k hk => Ren.addLoc_dom hk⟩
                    refine VR.slice (Ren.addLoc_self _ _ _ _) (Nat.zero_le _) ?_ r1 (fun k e => by simp at e) (fun _ => ?_)
                    · simp
                    · simp; omega
                | slice0 => omega
              · simp at hcs
            · simp at h
          · simp at h
        · simp at h
      · simp at h
    · simp at h
  · have hf : Nat.beq f 149 = false := Bool.eq_false_iff.2 hf
    rw [hf] at h
    simp at h
end Go.PE
