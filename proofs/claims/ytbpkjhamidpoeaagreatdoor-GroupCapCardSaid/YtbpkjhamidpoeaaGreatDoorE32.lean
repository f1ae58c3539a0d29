/- A shortcut for slices.AppendSeq(nil, seq), seq the iterator over a slice of ints: what it answers; and how a row in a new block of a later world comes into the relation. Nothing of a program stands here. -/
import Derived.Test.YtbpkjhamidpoeaaGreatDoorE30
namespace Go.PE

/-- In a later world, in which all that was there stands, a new block holds a new row. -/
theorem Rel.place {R : Ren} {g g' : Get} {w w' : World} (h : Rel R g w) {b : Nat} (hb : ∀ v, R.loc b v = none) (hm : R.mp b = none) {cs : List V} {c : Array Value} {t : TypeId}
    (hg : g' b = some (.cells cs 0 0)) (hk : ∀ k, k ≠ b → ((∃ v L, R.loc k v = some L) ∨ ∃ r, R.mp k = some r) → g' k = g k) (hone : cs.all V.one = true)
    (hc : cs.length ≤ c.size) (hv : VRL R cs (c.toList.take cs.length))
    (hos : w'.os = w.os) (htape : w'.tape = w.tape) (hout : w'.output = w.output) (hsize : w.heap.size ≤ w'.heap.size) (hold : ∀ r, r < w.heap.size → w'.heap[r]? = w.heap[r]?)
    {r : Nat} (hr : w.heap.size ≤ r) (hblk : w'.heap[r]? = some (.cells c t (0, 0))) :
    Rel (R.addLoc b 0 ⟨r, 0, cs.length, c.size⟩) g' w' ∧ StepR R w (R.addLoc b 0 ⟨r, 0, cs.length, c.size⟩) w' := by
  have le : R.Le (R.addLoc b 0 ⟨r, 0, cs.length, c.size⟩) := Ren.addLoc_le (hb 0)
  have h' := h.stood hold
  refine ⟨⟨?_, ?_, ?_, h.mpinj, ?_, ?_⟩, ⟨le, hos, htape, hout, hsize, fun r hr _ _ => hold r hr, ?_, fun _ _ e => .inl e, fun _ _ _ e => .inl e⟩⟩
  · intro b' v' L' e
    rcases Ren.addLoc_inv e with ⟨rfl, rfl, rfl⟩ | e'
    · refine ⟨cs, 0, 0, c, t, hg, hone, ⟨hblk, rfl, Nat.zero_le _, Nat.le_refl _, by simpa using hc, Nat.le_refl _, Nat.le_refl _, fun _ => rfl, ?_⟩⟩
      intro _ j x _ hj hx
      obtain ⟨y, hy, hr⟩ := hv.get hx
      refine ⟨y, ?_, hr.mono le⟩
      rw [List.getElem?_take, if_pos hj, Array.getElem?_toList] at hy
      simpa using hy
    · obtain ⟨l, ver, mn, c', t', hg2, ho2, hk2⟩ := h'.loc b' v' L' e'
      have hne : b' ≠ b := by rintro rfl; rw [hb v'] at e'; simp at e'
      exact ⟨l, ver, mn, c', t', by rw [hk b' hne (.inl ⟨v', L', e'⟩)]; exact hg2, ho2, hk2.mono le⟩
  · intro b1 v1 L1 b2 v2 L2 e1 e2 er
    rcases Ren.addLoc_inv e1 with ⟨rfl, rfl, rfl⟩ | e1' <;> rcases Ren.addLoc_inv e2 with ⟨rfl, rfl, rfl⟩ | e2'
    · exact ⟨rfl, rfl⟩
    · have := h.lt e2'; simp only at er; omega
    · have := h.lt e1'; simp only at er; omega
    · exact h.inj b1 v1 L1 b2 v2 L2 e1' e2' er
  · intro b' r' e
    obtain ⟨es, clock, es', hg2, hk2, hmm⟩ := h'.mp b' r' e
    have hne : b' ≠ b := by rintro rfl; have e' : R.mp b' = some r' := e; rw [hm] at e'; simp at e'
    exact ⟨es, clock, es', by rw [hk b' hne (.inr ⟨r', e⟩)]; exact hg2, hk2, hmm.mono le⟩
  · intro r' j x e
    obtain ⟨c', t', fz, y, hb', hy, hr⟩ := h'.im r' j x e
    exact ⟨c', t', fz, y, hb', hy, hr.mono le⟩
  · intro r' j x b' v' L' e e'
    rcases Ren.addLoc_inv e' with ⟨rfl, rfl, rfl⟩ | e''
    · have := h.ilt e; simp only; omega
    · exact h.imloc r' j x b' v' L' e e''
  · intro b' v' L' e
    rcases Ren.addLoc_inv e with ⟨rfl, rfl, rfl⟩ | e'
    · exact .inr hr
    · exact .inl ⟨v', L', e', rfl⟩

def isI64 : V → Bool
  | .int .i64 _ => true
  | _ => false

theorem isI64_list : ∀ {cs : List V}, cs.all isI64 = true → ∃ zs : List Int, cs = zs.map (V.int .i64)
  | [], _ => ⟨[], rfl⟩
  | c :: cs, h => by
    simp only [List.all_cons, Bool.and_eq_true] at h
    obtain ⟨zs, rfl⟩ := isI64_list h.2
    cases c <;> simp only [isI64, Bool.false_eq_true, false_and] at h
    rename_i k n
    cases k <;> simp only [Bool.false_eq_true, false_and] at h
    exact ⟨n :: zs, rfl⟩

/-- 'append(nil, all that the slice holds)', the slice's iterator a closure over its cell. -/
def appSeqG (f0 g0 : FuncId) : HeapS := fun f args g m =>
  cond (Nat.beq f f0)
    (match args with
    | [.nils, .fn g1 [] [.ptr b v off ext]] =>
      if g1 = g0 then
        match loadG g false 1 (.ptr b v off ext) with
        | some .nils => some (.nils, .same)
        | some (.slice b v off len es cap) =>
          match firstG g 1 len (.slice b v off len es cap) with
          | some cs => if 0 < len ∧ len ≤ 4096 ∧ cs.all isI64 = true then some (.slice m 0 0 len 1 none, .push (.cells cs 0 0)) else none
          | none => none
        | _ => none
      else none
    | _ => none)
    none

end Go.PE
