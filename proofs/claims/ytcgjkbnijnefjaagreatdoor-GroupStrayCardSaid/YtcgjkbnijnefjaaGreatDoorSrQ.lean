/- GroupStray's call, from what the kernel has reckoned of its class. -/
import Derived.Test.YtcgjkbnijnefjaaGreatDoorSrZ
import Derived.KernelRfl
namespace Go.PE
open Go.Proofs Go.RowKit
set_option maxRecDepth 100000

theorem sr_lit : cFunc Tryz.prog Tryz.f3 = some lit3 := by
  have h := lit3_ok
  unfold funcE at h
  split at h
  · rw [show Tryz.prog.funcs[3]? = some Tryz.f3 from Tryz.func3] at h; exact h
  · simp at h

/-- Names alone. -/
def srRen (cl sq a ob : Int) (s : ByteArray) : Ren := ⟨fun _ _ => none, fun _ => none, fun _ _ => none, fun i => match i with | 0 => some cl | 1 => some sq | 2 => some a | 3 => some ob | _ => none, fun i => match i with | 0 => some s | _ => none⟩

theorem vr_nam {R : Ren} {k : IntKind} {i : Nat} {lo hi n : Int} (h : R.nums i = some n) (h0 : lo ≤ n) (h1 : n ≤ hi) : VR R (.abs k ⟨some i, 0, lo, hi, 1, 0⟩) (.int k n) :=
  .abs ⟨h0, h1, Nat.one_pos, .inl (Int.emod_one _), fun j hj => by cases hj; exact ⟨n, h, by simp⟩⟩
theorem vr_bd {R : Ren} {k : IntKind} {lo hi n : Int} (h0 : lo ≤ n) (h1 : n ≤ hi) : VR R (.abs k ⟨none, 0, lo, hi, 1, 0⟩) (.int k n) :=
  .abs ⟨h0, h1, Nat.one_pos, .inl (Int.emod_one _), fun j hj => by cases hj⟩
theorem vr_ep {R : Ren} {n : Int} (h0 : 0 ≤ n) (h1 : n < 4294967296) : ∃ z, VR R (ve z) (.int .u32 n) := by
  by_cases h : n % 60 = 0
  · exact ⟨true, .abs ⟨h0, show n ≤ 4294967295 by omega, show 0 < 60 by decide, .inl h, fun j hj => by cases hj⟩⟩
  · exact ⟨false, .abs ⟨h0, show n ≤ 4294967295 by omega, show 0 < 60 by decide, .inr ⟨by show ¬ 60 < 60; decide, h⟩, fun j hj => by cases hj⟩⟩

theorem empty_is {s : ByteArray} (h : s.size = 0) : s = bs [] := by
  have : s.data = #[] := Array.eq_empty_of_size_eq_zero h
  cases s
  simp only at this
  subst this
  rfl

/-- The call's end. -/
abbrev Goes (args : Array Value) (W : World) : Prop := Calls Tryz.prog 3 args W fun e W' => e = .returned (.bool true) ∧ Below W.heap.size W W'

section
variable {cl sq kd ob a : Int} {s : ByteArray}

theorem no_calls {co : List V} (hm : co ∈ noW) {x y z : Int} (hx : 0 ≤ x ∧ x < 256) (hy : 0 ≤ y ∧ y < 256) (hz : 0 ≤ z ∧ z < 4294967296)
    (hco : VRL (srRen cl sq a ob s) co [.int .u8 cl, .int .u32 sq, .int .u8 kd, .int .u8 ob, .int .u8 a, .string s]) (W : World) :
    Goes #[.int .u8 x, .int .u8 y, .int .u32 z, .agg #[.int .u8 cl, .int .u32 sq, .int .u8 kd, .int .u8 ob, .int .u8 a, .string s]] W := by
  have h := List.all_eq_true.1 noW_all co hm
  obtain ⟨outs, c1, c2⟩ := Option.map_eq_some_iff.1 srBody_c
  obtain ⟨e', H', q1, q2⟩ := good_lastD tryzMixed law2_sim law2_ok srBody_s c1 rfl c2 h (e0 := eI co) ⟨rfl, fun t _ => rfl⟩
  exact good_callsA (fn := Tryz.f3) (ef := lit3) (t := 8) Tryz.func3 sr_lit rfl (args := [aB, aB, aW, .agg co]) (R := srRen cl sq a ob s) (fun _ _ => rfl) (fun _ => rfl) (fun _ _ => rfl)
    (.cons (vr_bd hx.1 (by omega)) (.cons (vr_bd hy.1 (by omega)) (.cons (vr_bd hz.1 (by omega)) (.cons (.agg hco) .nil)))) (show 4 ≤ 137 by decide) (.inr rfl) q1 q2

theorem co_flat {k o : Nat} : (co k o).all flatB = true := by
  unfold co; split <;> rfl

theorem yes_calls {g : Nat} {π : List Nat} {eP : Env} {ht : Heap} (d : SrData g π eP ht) (hr : ∀ (f : Nat) (z : Bool) (k : Nat), f < 5 → k < 4 → ((List.range 6).all fun o => rR eP ht (vf f) (ve z) (co k o)) = true)
    {x y z : Int} (hx : 0 ≤ x ∧ x < 256) (hy : 0 ≤ y ∧ y < 256) (hz : 0 ≤ z ∧ z < 4294967296) (hg : x % 4 = g) {k o : Nat} (hk : k < 4) (ho : o < 6)
    (hco : VRL (srRen cl sq a ob s) (co k o) [.int .u8 cl, .int .u32 sq, .int .u8 kd, .int .u8 ob, .int .u8 a, .string s]) (W : World) :
    Goes #[.int .u8 x, .int .u8 y, .int .u32 z, .agg #[.int .u8 cl, .int .u32 sq, .int .u8 kd, .int .u8 ob, .int .u8 a, .string s]] W := by
  obtain ⟨zb, hzb⟩ := vr_ep (R := srRen cl sq a ob s) hz.1 hz.2
  have h1 := List.all_eq_true.1 (hr (y % 5).toNat zb k (by omega) hk) o (List.mem_range.2 ho)
  have h2 := List.all_eq_true.1 (List.all_eq_true.1 co_all k (List.mem_range.2 hk)) o (List.mem_range.2 ho)
  obtain ⟨e', H', q1, q2⟩ := sr_all d (vf := vf (y % 5).toNat) (ve := ve zb) (co := co k o) rfl (by cases zb <;> rfl) co_flat h2 h1
  exact good_callsA (fn := Tryz.f3) (ef := lit3) (t := 8) Tryz.func3 sr_lit rfl (args := srArgs g (vf (y % 5).toNat) (ve zb) (co k o)) (R := srRen cl sq a ob s) (fun _ _ => rfl) (fun _ => rfl) (fun _ _ => rfl)
    (.cons (modV_ok hx.1 hx.2 (by decide) hg) (.cons (modV_ok hy.1 hy.2 (by decide) (show y % (5 : Nat) = ((y % 5).toNat : Int) by omega)) (.cons hzb (.cons (.agg hco) .nil)))) (show 4 ≤ 137 by decide) (.inr rfl) q1 q2

/-- An operation is of a class. -/
theorem op_class (hcl : 0 ≤ cl ∧ cl < 256) (hsq : 0 ≤ sq ∧ sq < 4294967296) (hkd : 0 ≤ kd ∧ kd < 256) (hob : 0 ≤ ob ∧ ob < 256) (ha : 0 ≤ a ∧ a < 256) (hs : s.size ≤ 9223372036854775807) :
    (∃ co ∈ noW, VRL (srRen cl sq a ob s) co [.int .u8 cl, .int .u32 sq, .int .u8 kd, .int .u8 ob, .int .u8 a, .string s]) ∨
    ∃ k o, k < 4 ∧ o < 6 ∧ VRL (srRen cl sq a ob s) (co k o) [.int .u8 cl, .int .u32 sq, .int .u8 kd, .int .u8 ob, .int .u8 a, .string s] := by
  have wW : VR (srRen cl sq a ob s) aW (.int .u32 sq) := vr_bd hsq.1 (by omega)
  have wB : ∀ n : Int, 0 ≤ n ∧ n < 256 → VR (srRen cl sq a ob s) aB (.int .u8 n) := fun n h => vr_bd h.1 (by omega)
  have wS : VR (srRen cl sq a ob s) (.syms 0 0 9223372036854775807) (.string s) := .syms rfl (Nat.zero_le _) hs
  have wE : VR (srRen cl sq a ob s) qs (.string (bs [])) := .str _
  rcases (show cl = 0 ∨ 4 ≤ cl ∨ 1 ≤ cl ∧ cl ≤ 3 by omega) with h | h | h
  · subst h
    exact .inl ⟨_, .head _, .cons (.int _ _) (.cons wW (.cons (wB _ hkd) (.cons (wB _ hob) (.cons (wB _ ha) (.cons wS .nil)))))⟩
  · exact .inl ⟨_, .tail _ (.head _), .cons (vr_bd h (by omega)) (.cons wW (.cons (wB _ hkd) (.cons (wB _ hob) (.cons (wB _ ha) (.cons wS .nil)))))⟩
  have wC : VR (srRen cl sq a ob s) nC (.int .u8 cl) := vr_nam rfl h.1 h.2
  rcases (show sq = 0 ∨ 1 ≤ sq by omega) with h | h
  · subst h
    exact .inl ⟨_, .tail _ (.tail _ (.head _)), .cons wC (.cons (.int _ _) (.cons (wB _ hkd) (.cons (wB _ hob) (.cons (wB _ ha) (.cons wS .nil)))))⟩
  have wQ : VR (srRen cl sq a ob s) nS (.int .u32 sq) := vr_nam rfl h (by omega)
  rcases (show 6 ≤ ob ∨ ob ≤ 5 by omega) with h | h
  · exact .inl ⟨_, .tail _ (.tail _ (.tail _ (.head _))), .cons wC (.cons wQ (.cons (wB _ hkd) (.cons (vr_bd h (by omega)) (.cons (wB _ ha) (.cons wS .nil)))))⟩
  have wO : VR (srRen cl sq a ob s) nO (.int .u8 ob) := vr_nam rfl hob.1 h
  have wOc : VR (srRen cl sq a ob s) (qb (Int.ofNat ob.toNat)) (.int .u8 ob) := by
    rw [show (Int.ofNat ob.toNat) = ob by simp; omega]; exact .int _ _
  have wN : VR (srRen cl sq a ob s) nA (.int .u8 a) := vr_nam rfl ha.1 (by omega)
  have hoc : ob.toNat < 6 := by omega
  rcases (show 17 ≤ s.size ∨ s.size ≤ 16 by omega) with h | h
  · exact .inl ⟨_, .tail _ (.tail _ (.tail _ (.tail _ (.head _)))), .cons wC (.cons wQ (.cons (wB _ hkd) (.cons wO (.cons (wB _ ha) (.cons (.syms rfl h hs) .nil)))))⟩
  have w16 : VR (srRen cl sq a ob s) (.syms 0 0 16) (.string s) := .syms rfl (Nat.zero_le _) h
  have w1 : s.size ≠ 0 → VR (srRen cl sq a ob s) (.syms 0 1 16) (.string s) := fun h0 => .syms rfl (by omega) h
  have hkc : kd = 0 ∨ kd = 1 ∨ kd = 2 ∨ kd = 3 ∨ kd = 4 ∨ kd = 5 ∨ 6 ≤ kd := by omega
  have hac : a = 0 ∨ 1 ≤ a := by omega
  have h0c : s.size = 0 ∨ s.size ≠ 0 := by omega
  rcases hkc with rfl | rfl | rfl | rfl | rfl | rfl | hk
  · exact .inl ⟨_, .tail _ (.tail _ (.tail _ (.tail _ (.tail _ (.head _))))), .cons wC (.cons wQ (.cons (.int _ _) (.cons wO (.cons (wB _ ha) (.cons w16 .nil)))))⟩
  · exact .inr ⟨0, ob.toNat, by decide, hoc, .cons wC (.cons wQ (.cons (.int _ _) (.cons wOc (.cons wN (.cons w16 .nil)))))⟩
  · rcases h0c with h0 | h0
    · exact .inr ⟨2, ob.toNat, by decide, hoc, .cons wC (.cons wQ (.cons (.int _ _) (.cons wOc (.cons wN (.cons (by rw [empty_is h0]; exact .str _) .nil)))))⟩
    · exact .inl ⟨_, .tail _ (.tail _ (.tail _ (.tail _ (.tail _ (.tail _ (.tail _ (.head _))))))), .cons wC (.cons wQ (.cons (.int _ _) (.cons wO (.cons (wB _ ha) (.cons (w1 h0) .nil)))))⟩
  · exact .inr ⟨1, ob.toNat, by decide, hoc, .cons wC (.cons wQ (.cons (.int _ _) (.cons wOc (.cons wN (.cons w16 .nil)))))⟩
  · rcases hac with ha0 | ha1
    · rcases h0c with h0 | h0
      · exact .inr ⟨3, ob.toNat, by decide, hoc, .cons wC (.cons wQ (.cons (.int _ _) (.cons wOc (.cons (by rw [ha0]; exact .int _ _) (.cons (by rw [empty_is h0]; exact .str _) .nil)))))⟩
      · exact .inl ⟨_, .tail _ (.tail _ (.tail _ (.tail _ (.tail _ (.tail _ (.tail _ (.tail _ (.tail _ (.head _))))))))), .cons wC (.cons wQ (.cons (.int _ _) (.cons wO (.cons (by rw [ha0]; exact .int _ _) (.cons (w1 h0) .nil)))))⟩
    · exact .inl ⟨_, .tail _ (.tail _ (.tail _ (.tail _ (.tail _ (.tail _ (.tail _ (.tail _ (.head _)))))))), .cons wC (.cons wQ (.cons (.int _ _) (.cons wO (.cons (vr_bd ha1 (by omega)) (.cons w16 .nil)))))⟩
  · rcases hac with ha0 | ha1
    · rcases h0c with h0 | h0
      · exact .inl ⟨_, .tail _ (.tail _ (.tail _ (.tail _ (.tail _ (.tail _ (.tail _ (.tail _ (.tail _ (.tail _ (.tail _ (.tail _ (.head _)))))))))))), .cons wC (.cons wQ (.cons (.int _ _) (.cons wO (.cons (by rw [ha0]; exact .int _ _) (.cons (by rw [empty_is h0]; exact .str _) .nil)))))⟩
      · exact .inl ⟨_, .tail _ (.tail _ (.tail _ (.tail _ (.tail _ (.tail _ (.tail _ (.tail _ (.tail _ (.tail _ (.tail _ (.head _))))))))))), .cons wC (.cons wQ (.cons (.int _ _) (.cons wO (.cons (by rw [ha0]; exact .int _ _) (.cons (w1 h0) .nil)))))⟩
    · exact .inl ⟨_, .tail _ (.tail _ (.tail _ (.tail _ (.tail _ (.tail _ (.tail _ (.tail _ (.tail _ (.tail _ (.head _)))))))))), .cons wC (.cons wQ (.cons (.int _ _) (.cons wO (.cons (vr_bd ha1 (by omega)) (.cons w16 .nil)))))⟩
  · exact .inl ⟨_, .tail _ (.tail _ (.tail _ (.tail _ (.tail _ (.tail _ (.head _)))))), .cons wC (.cons wQ (.cons (vr_bd hk (by omega)) (.cons wO (.cons (wB _ ha) (.cons w16 .nil)))))⟩

end
end Go.PE
