/- New rows, new maps, rows that grow: what they do to the relation. Nothing of a program stands here. -/
import Derived.Test.YtbpkjhamidpoeaaGreatDoorE4
namespace Go.PE

def Ren.addLoc (R : Ren) (b v : Nat) (L : Loc) : Ren := { R with loc := fun b' v' => if b' = b ∧ v' = v then some L else R.loc b' v' }
def Ren.addMp (R : Ren) (b r : Nat) : Ren := { R with mp := fun b' => if b' = b then some r else R.mp b' }

theorem Ren.addLoc_le {R : Ren} {b v : Nat} {L : Loc} (h : R.loc b v = none) : R.Le (R.addLoc b v L) :=
  ⟨fun b' v' L' e => by
    unfold Ren.addLoc; dsimp only
    split
    · rename_i hc; obtain ⟨rfl, rfl⟩ := hc; rw [h] at e; simp at e
    · exact e, fun _ _ e => e, fun _ _ _ e => e⟩

theorem Ren.addLoc_self (R : Ren) (b v : Nat) (L : Loc) : (R.addLoc b v L).loc b v = some L := by simp [Ren.addLoc]

theorem Ren.addLoc_inv {R : Ren} {b v b' v' : Nat} {L L' : Loc} (h : (R.addLoc b v L).loc b' v' = some L') : (b' = b ∧ v' = v ∧ L' = L) ∨ R.loc b' v' = some L' := by
  unfold Ren.addLoc at h; dsimp only at h
  split at h
  · rename_i hc; exact .inl ⟨hc.1, hc.2, by simpa using h.symm⟩
  · exact .inr h

theorem Ren.addMp_le {R : Ren} {b r : Nat} (h : R.mp b = none) : R.Le (R.addMp b r) :=
  ⟨fun _ _ _ e => e, fun b' r' e => by
    unfold Ren.addMp; dsimp only
    split
    · rename_i hc; subst hc; rw [h] at e; simp at e
    · exact e, fun _ _ _ e => e⟩

theorem Ren.addMp_inv {R : Ren} {b r b' r' : Nat} (h : (R.addMp b r).mp b' = some r') : (b' = b ∧ r' = r) ∨ R.mp b' = some r' := by
  unfold Ren.addMp at h; dsimp only at h
  split at h
  · rename_i hc; exact .inl ⟨hc, by simpa using h.symm⟩
  · exact .inr h

theorem Ren.addLoc_dom {R : Ren} {b v k : Nat} {L : Loc} (h : (R.addLoc b v L).Dom k) : R.Dom k ∨ k = b := by
  rcases h with ⟨v', L', e⟩ | ⟨r, e⟩
  · rcases Ren.addLoc_inv e with ⟨rfl, _, _⟩ | e'
    · exact .inr rfl
    · exact .inl (.inl ⟨v', L', e'⟩)
  · exact .inl (.inr ⟨r, e⟩)

theorem Ren.addMp_dom {R : Ren} {b r k : Nat} (h : (R.addMp b r).Dom k) : R.Dom k ∨ k = b := by
  rcases h with ⟨v', L', e⟩ | ⟨r, e⟩
  · exact .inl (.inl ⟨v', L', e⟩)
  · rcases Ren.addMp_inv e with ⟨rfl, _⟩ | e'
    · exact .inr rfl
    · exact .inl (.inr ⟨r, e'⟩)

theorem push_lt {w : World} {o : Obj} {k : Nat} (h : k < w.heap.size) : (w.alloc o).heap[k]? = w.heap[k]? := by
  show (w.heap.push o)[k]? = _
  rw [Array.getElem?_push, if_neg (by omega)]

theorem push_size (w : World) (o : Obj) : w.heap.size ≤ (w.alloc o).heap.size := by
  show _ ≤ (w.heap.push o).size
  simp

theorem push_at (w : World) (o : Obj) : (w.alloc o).heap[w.heap.size]? = some o := by
  show (w.heap.push o)[w.heap.size]? = _
  simp

/-- A new block is made; what was there stands. -/
theorem LocOK.push {R R' : Ren} {w : World} {o : Obj} {v : Nat} {L : Loc} {l : List V} {ver mn : Nat} {c : Array Value} {e : TypeId} (h : LocOK R w v L l ver mn c e) (le : R.Le R') :
    LocOK R' (w.alloc o) v L l ver mn c e where
  blk := by rw [push_lt (Array.getElem?_eq_some_iff.1 h.blk).1]; exact h.blk
  n := h.n
  lohi := h.lohi
  hil := h.hil
  fit := h.fit
  vv := h.vv
  mv := h.mv
  top := h.top
  cell hv j x h1 h2 h3 := by
    obtain ⟨y, hy, hr⟩ := h.cell hv j x h1 h2 h3
    exact ⟨y, hy, hr.mono le⟩

theorem LocOK.mono {R R' : Ren} {w : World} {v : Nat} {L : Loc} {l : List V} {ver mn : Nat} {c : Array Value} {e : TypeId} (h : LocOK R w v L l ver mn c e) (le : R.Le R') :
    LocOK R' w v L l ver mn c e where
  blk := h.blk
  n := h.n
  lohi := h.lohi
  hil := h.hil
  fit := h.fit
  vv := h.vv
  mv := h.mv
  top := h.top
  cell hv j x h1 h2 h3 := by
    obtain ⟨y, hy, hr⟩ := h.cell hv j x h1 h2 h3
    exact ⟨y, hy, hr.mono le⟩

theorem Rel.none_of_get {R : Ren} {g : Get} {w : World} (h : Rel R g w) {b : Nat} (hb : g b = none) : (∀ v, R.loc b v = none) ∧ R.mp b = none := by
  constructor
  · intro v
    cases e : R.loc b v with
    | none => rfl
    | some L => obtain ⟨_, _, _, _, _, hg, _⟩ := h.loc b v L e; rw [hb] at hg; simp at hg
  · cases e : R.mp b with
    | none => rfl
    | some L => obtain ⟨_, _, _, hg, _⟩ := h.mp b L e; rw [hb] at hg; simp at hg

/-- A new row in a new block. -/
theorem Rel.alloc {R : Ren} {g g' : Get} {w : World} (h : Rel R g w) {b : Nat} (hb : ∀ v, R.loc b v = none) (hm : R.mp b = none) {cs : List V} {c : Array Value} {t : TypeId}
    (hg : g' b = some (.cells cs 0 0)) (hk : ∀ k, k ≠ b → ((∃ v L, R.loc k v = some L) ∨ ∃ r, R.mp k = some r) → g' k = g k) (hone : cs.all V.one = true)
    (hc : cs.length ≤ c.size) (hv : VRL R cs (c.toList.take cs.length)) :
    Rel (R.addLoc b 0 ⟨w.heap.size, 0, cs.length, c.size⟩) g' (w.alloc (.cells c t)) ∧ StepR R w (R.addLoc b 0 ⟨w.heap.size, 0, cs.length, c.size⟩) (w.alloc (.cells c t)) := by
  have le : R.Le (R.addLoc b 0 ⟨w.heap.size, 0, cs.length, c.size⟩) := Ren.addLoc_le (hb 0)
  refine ⟨⟨?_, ?_, ?_, h.mpinj, ?_, ?_⟩, ⟨le, rfl, rfl, rfl, push_size w _, fun r hr _ _ => push_lt hr, ?_, fun _ _ e => .inl e, fun _ _ _ e => .inl e⟩⟩
  · intro b' v' L' e
    rcases Ren.addLoc_inv e with ⟨rfl, rfl, rfl⟩ | e'
    · refine ⟨cs, 0, 0, c, t, hg, hone, ⟨push_at _ _, rfl, Nat.zero_le _, Nat.le_refl _, by simpa using hc, Nat.le_refl _, Nat.le_refl _, fun _ => rfl, ?_⟩⟩
      intro _ j x _ hj hx
      obtain ⟨y, hy, hr⟩ := hv.get hx
      refine ⟨y, ?_, hr.mono le⟩
      rw [List.getElem?_take, if_pos hj, Array.getElem?_toList] at hy
      simpa using hy
    · obtain ⟨l, ver, mn, c', t', hg2, ho2, hk2⟩ := h.loc b' v' L' e'
      have hne : b' ≠ b := by rintro rfl; rw [hb v'] at e'; simp at e'
      exact ⟨l, ver, mn, c', t', by rw [hk b' hne (.inl ⟨v', L', e'⟩)]; exact hg2, ho2, hk2.push le⟩
  · intro b1 v1 L1 b2 v2 L2 e1 e2 er
    rcases Ren.addLoc_inv e1 with ⟨rfl, rfl, rfl⟩ | e1' <;> rcases Ren.addLoc_inv e2 with ⟨rfl, rfl, rfl⟩ | e2'
    · exact ⟨rfl, rfl⟩
    · have := h.lt e2'; simp only at er; omega
    · have := h.lt e1'; simp only at er; omega
    · exact h.inj b1 v1 L1 b2 v2 L2 e1' e2' er
  · intro b' r e
    obtain ⟨es, clock, es', hg2, hk2, hmm⟩ := h.mp b' r e
    have hne : b' ≠ b := by rintro rfl; have e' : R.mp b' = some r := e; rw [hm] at e'; simp at e'
    exact ⟨es, clock, es', by rw [hk b' hne (.inr ⟨r, e⟩)]; exact hg2, by rw [push_lt (h.mlt e)]; exact hk2, hmm.mono le⟩
  · intro r j x e
    obtain ⟨c', t', fz, y, hb', hy, hr⟩ := h.im r j x e
    exact ⟨c', t', fz, y, by rw [push_lt (h.ilt e)]; exact hb', hy, hr.mono le⟩
  · intro r j x b' v' L' e e'
    rcases Ren.addLoc_inv e' with ⟨rfl, rfl, rfl⟩ | e''
    · have := h.ilt e; simp only; omega
    · exact h.imloc r j x b' v' L' e e''
  · intro b' v' L' e
    rcases Ren.addLoc_inv e with ⟨rfl, rfl, rfl⟩ | e'
    · exact .inr (Nat.le_refl _)
    · exact .inl ⟨v', L', e', rfl⟩

/-- A block that nothing abstract stands for is made. -/
theorem Rel.junk {R : Ren} {g : Get} {w : World} (h : Rel R g w) (o : Obj) : Rel R g (w.alloc o) ∧ StepR R w R (w.alloc o) := by
  refine ⟨⟨?_, h.inj, ?_, h.mpinj, ?_, h.imloc⟩, ⟨.refl R, rfl, rfl, rfl, push_size w _, fun r hr _ _ => push_lt hr, fun _ v L h => .inl ⟨v, L, h, rfl⟩, fun _ _ e => .inl e, fun _ _ _ e => .inl e⟩⟩
  · intro b v L e
    obtain ⟨l, ver, mn, c, t, hg, ho, hk⟩ := h.loc b v L e
    exact ⟨l, ver, mn, c, t, hg, ho, hk.push (.refl R)⟩
  · intro b r e
    obtain ⟨es, clock, es', hg2, hk2, hmm⟩ := h.mp b r e
    exact ⟨es, clock, es', hg2, by rw [push_lt (h.mlt e)]; exact hk2, hmm⟩
  · intro r j x e
    obtain ⟨c', t', fz, y, hb', hy, hr⟩ := h.im r j x e
    exact ⟨c', t', fz, y, by rw [push_lt (h.ilt e)]; exact hb', hy, hr⟩

/-- A new map. -/
theorem Rel.newMap {R : Ren} {g g' : Get} {w : World} (h : Rel R g w) {b : Nat} (hb : ∀ v, R.loc b v = none) (hm : R.mp b = none)
    (hg : g' b = some (.map [] 0)) (hk : ∀ k, k ≠ b → ((∃ v L, R.loc k v = some L) ∨ ∃ r, R.mp k = some r) → g' k = g k) :
    Rel (R.addMp b w.heap.size) g' (w.alloc (.map #[] 0)) ∧ StepR R w (R.addMp b w.heap.size) (w.alloc (.map #[] 0)) := by
  have le : R.Le (R.addMp b w.heap.size) := Ren.addMp_le hm
  refine ⟨⟨?_, h.inj, ?_, ?_, ?_, h.imloc⟩, ⟨le, rfl, rfl, rfl, push_size w _, fun r hr _ _ => push_lt hr, fun _ v L h => .inl ⟨v, L, h, rfl⟩, ?_, fun _ _ _ e => .inl e⟩⟩
  · intro b' v' L' e
    have e' : R.loc b' v' = some L' := e
    obtain ⟨l, ver, mn, c', t', hg2, ho2, hk2⟩ := h.loc b' v' L' e'
    have hne : b' ≠ b := by rintro rfl; rw [hb v'] at e'; simp at e'
    exact ⟨l, ver, mn, c', t', by rw [hk b' hne (.inl ⟨v', L', e'⟩)]; exact hg2, ho2, hk2.push le⟩
  · intro b' r e
    rcases Ren.addMp_inv e with ⟨rfl, rfl⟩ | e'
    · exact ⟨[], 0, #[], hg, push_at _ _, .nil⟩
    · obtain ⟨es, clock, es', hg2, hk2, hmm⟩ := h.mp b' r e'
      have hne : b' ≠ b := by rintro rfl; rw [hm] at e'; simp at e'
      exact ⟨es, clock, es', by rw [hk b' hne (.inr ⟨r, e'⟩)]; exact hg2, by rw [push_lt (h.mlt e')]; exact hk2, hmm.mono le⟩
  · intro b1 b2 r e1 e2
    rcases Ren.addMp_inv e1 with ⟨rfl, rfl⟩ | e1' <;> rcases Ren.addMp_inv e2 with ⟨rfl, er⟩ | e2'
    · rfl
    · have := h.mlt e2'; omega
    · have := h.mlt e1'; omega
    · exact h.mpinj b1 b2 r e1' e2'
  · intro r j x e
    obtain ⟨c', t', fz, y, hb', hy, hr⟩ := h.im r j x e
    exact ⟨c', t', fz, y, by rw [push_lt (h.ilt e)]; exact hb', hy, hr.mono le⟩
  · intro b' r e
    rcases Ren.addMp_inv e with ⟨rfl, rfl⟩ | e'
    · exact .inr (Nat.le_refl _)
    · exact .inl e'

/-- A row grows: into a new block. -/
theorem Rel.growNew {R : Ren} {H : Heap} {w : World} (h : Rel R (H[·]?) w) {b v off : Nat} {L : Loc} {l xs : List V} {mn : Nat} {c : Array Value} {t : TypeId}
    (e : R.loc b v = some L) (hg : H[b]? = some (.cells l v mn)) (_h1 : L.lo ≤ off) (h2 : off ≤ l.length) (hone : xs.all V.one = true) (hmn : mn ≤ v)
    (hc : l.length - off + xs.length ≤ c.size) (hv : VRL R (l.drop off ++ xs) (c.toList.take (l.length - off + xs.length))) :
    ∃ R', R' = R.addLoc b (v + 1) ⟨w.heap.size, off, l.length + xs.length, c.size⟩ ∧
      Rel R' ((H.set b (.cells (l ++ xs) (v + 1) mn))[·]?) (w.alloc (.cells c t)) ∧ StepR R w R' (w.alloc (.cells c t)) := by
  have hnone : R.loc b (v + 1) = none := by
    cases e' : R.loc b (v + 1) with
    | none => rfl
    | some L' =>
      obtain ⟨l', ver', mn', c', t', hg2, _, hk2⟩ := h.loc b (v + 1) L' e'
      have hg3 : H[b]? = some (.cells l' ver' mn') := hg2
      rw [hg] at hg3
      simp only [Option.some.injEq, Box.cells.injEq] at hg3
      obtain ⟨_, rfl, _⟩ := hg3
      have := hk2.vv; omega
  have hbl : b < H.length := (List.getElem?_eq_some_iff.1 hg).1
  have le : R.Le (R.addLoc b (v + 1) ⟨w.heap.size, off, l.length + xs.length, c.size⟩) := Ren.addLoc_le hnone
  obtain ⟨l0, ver0, mn0, c0, t0, hg0, ho0, hk0⟩ := h.loc b v L e
  have hg0' : H[b]? = some (.cells l0 ver0 mn0) := hg0
  rw [hg] at hg0'
  simp only [Option.some.injEq, Box.cells.injEq] at hg0'
  obtain ⟨rfl, rfl, rfl⟩ := hg0'
  have hall : (l ++ xs).all V.one = true := by rw [List.all_append, ho0, hone]; rfl
  refine ⟨_, rfl, ⟨?_, ?_, ?_, h.mpinj, ?_, ?_⟩, ⟨le, rfl, rfl, rfl, push_size w _, fun r hr _ _ => push_lt hr, ?_, fun _ _ e => .inl e, fun _ _ _ e => .inl e⟩⟩
  · intro b' v' L' e'
    rcases Ren.addLoc_inv e' with ⟨rfl, rfl, rfl⟩ | e''
    · refine ⟨l ++ xs, v + 1, mn, c, t, by simp [hbl], hall, ⟨push_at _ _, rfl, ?_, ?_, ?_, Nat.le_refl _, by omega, ?_, ?_⟩⟩
      · dsimp only; omega
      · dsimp only; simp
      · dsimp only; omega
      · intro _; simp
      · intro _ j x hlo hj hx
        dsimp only at hlo hj ⊢
        have hx' : (l.drop off ++ xs)[j - off]? = some x := by
          rw [← hx]
          by_cases hjl : j < l.length
          · rw [List.getElem?_append_left (by simp; omega), List.getElem?_append_left hjl, List.getElem?_drop]
            congr 1; omega
          · rw [List.getElem?_append_right (by simp; omega), List.getElem?_append_right (by omega)]
            congr 1; simp; omega
        obtain ⟨y, hy, hr⟩ := hv.get hx'
        refine ⟨y, ?_, hr.mono le⟩
        rw [List.getElem?_take, if_pos (by omega), Array.getElem?_toList] at hy
        exact hy
    · obtain ⟨l', ver', mn', c', t', hg2, ho2, hk2⟩ := h.loc b' v' L' e''
      by_cases hbb : b' = b
      · subst hbb
        have hg3 : H[b']? = some (.cells l' ver' mn') := hg2
        rw [hg] at hg3
        simp only [Option.some.injEq, Box.cells.injEq] at hg3
        obtain ⟨rfl, rfl, rfl⟩ := hg3
        have hp := hk2.push (o := .cells c t) le
        refine ⟨l ++ xs, v + 1, mn, c', t', by simp [hbl], hall, ⟨hp.blk, hp.n, hp.lohi, ?_, hp.fit, ?_, by omega, ?_, ?_⟩⟩
        · have := hp.hil; simp; omega
        · have := hp.vv; omega
        · intro hv'; have := hp.vv; omega
        · intro hv' j x hlo hj hx
          have := hp.hil
          exact hp.cell hv' j x hlo hj (by rw [List.getElem?_append_left (by omega)] at hx; exact hx)
      · refine ⟨l', ver', mn', c', t', ?_, ho2, hk2.push le⟩
        show (H.set b _)[b']? = _
        rw [getElem?_set_heap hbl, if_neg hbb]; exact hg2
  · intro b1 v1 L1 b2 v2 L2 e1 e2 er
    rcases Ren.addLoc_inv e1 with ⟨rfl, rfl, rfl⟩ | e1' <;> rcases Ren.addLoc_inv e2 with ⟨rfl, rfl, rfl⟩ | e2'
    · exact ⟨rfl, rfl⟩
    · have := h.lt e2'; simp only at er; omega
    · have := h.lt e1'; simp only at er; omega
    · exact h.inj b1 v1 L1 b2 v2 L2 e1' e2' er
  · intro b' r e'
    obtain ⟨es, clock, es', hg2, hk2, hmm⟩ := h.mp b' r e'
    have hne : b' ≠ b := by
      rintro rfl
      have hg3 : H[b']? = some (.map es clock) := hg2
      rw [hg] at hg3; simp at hg3
    refine ⟨es, clock, es', ?_, by rw [push_lt (h.mlt e')]; exact hk2, hmm.mono le⟩
    show (H.set b _)[b']? = _
    rw [getElem?_set_heap hbl, if_neg hne]; exact hg2
  · intro r j x e'
    obtain ⟨c', t', fz, y, hb', hy, hr⟩ := h.im r j x e'
    exact ⟨c', t', fz, y, by rw [push_lt (h.ilt e')]; exact hb', hy, hr.mono le⟩
  · intro r j x b' v' L' e1 e'
    rcases Ren.addLoc_inv e' with ⟨rfl, rfl, rfl⟩ | e''
    · have := h.ilt e1; simp only; omega
    · exact h.imloc r j x b' v' L' e1 e''
  · intro b' v' L' e'
    rcases Ren.addLoc_inv e' with ⟨rfl, rfl, rfl⟩ | e''
    · exact .inr (Nat.le_refl _)
    · exact .inl ⟨v', L', e'', rfl⟩

/-- A row grows: in its own block, behind all that any version of it has. -/
theorem Rel.growHere {P : Program} {R : Ren} {H : Heap} {w : World} (h : Rel R (H[·]?) w) {b v : Nat} {L : Loc} {l xs : List V} {ys : List Value} {mn : Nat}
    (e : R.loc b v = some L) (hg : H[b]? = some (.cells l v mn)) (hone : xs.all V.one = true) (hmn : mn ≤ v)
    (hfit : l.length - L.lo + xs.length ≤ L.n) (hv : VRL R xs ys) :
    ∃ R' w', R' = R.addLoc b (v + 1) ⟨L.r, L.lo, l.length + xs.length, L.n⟩ ∧
      (storeCells (⟨L.r, l.length - L.lo, none⟩ : Addr) ys).run P w = .ok () w' ∧
      Rel R' ((H.set b (.cells (l ++ xs) (v + 1) mn))[·]?) w' ∧ StepR R w R' w' := by
  have hnone : R.loc b (v + 1) = none := by
    cases e' : R.loc b (v + 1) with
    | none => rfl
    | some L' =>
      obtain ⟨l', ver', mn', c', t', hg2, _, hk2⟩ := h.loc b (v + 1) L' e'
      have hg3 : H[b]? = some (.cells l' ver' mn') := hg2
      rw [hg] at hg3
      simp only [Option.some.injEq, Box.cells.injEq] at hg3
      obtain ⟨_, rfl, _⟩ := hg3
      have := hk2.vv; omega
  have hbl : b < H.length := (List.getElem?_eq_some_iff.1 hg).1
  have le : R.Le (R.addLoc b (v + 1) ⟨L.r, L.lo, l.length + xs.length, L.n⟩) := Ren.addLoc_le hnone
  obtain ⟨l0, ver0, mn0, c0, t0, hg0, ho0, hk0⟩ := h.loc b v L e
  have hg0' : H[b]? = some (.cells l0 ver0 mn0) := hg0
  rw [hg] at hg0'
  simp only [Option.some.injEq, Box.cells.injEq] at hg0'
  obtain ⟨rfl, rfl, rfl⟩ := hg0'
  have hall : (l ++ xs).all V.one = true := by rw [List.all_append, ho0, hone]; rfl
  have hlen := hv.length
  have htop := hk0.top rfl
  have hlohi := hk0.lohi
  have hn := hk0.n
  have hrun := run_storeCells_at P L.r (l.length - L.lo) t0 ys 0 c0 w hk0.blk (by omega) (hv.one hone)
  simp only [Nat.add_zero] at hrun
  have hrow := setRow_heap w L.r c0 (c0.toList.take (l.length - L.lo) ++ ys ++ c0.toList.drop (l.length - L.lo + ys.length)).toArray t0 _ hk0.blk
  have hother : ∀ k, k ≠ L.r → (w.setRow L.r (c0.toList.take (l.length - L.lo) ++ ys ++ c0.toList.drop (l.length - L.lo + ys.length)).toArray).heap[k]? = w.heap[k]? := fun k hk => setRow_other w L.r k _ hk
  refine ⟨_, _, rfl, hrun, ⟨?_, ?_, ?_, h.mpinj, ?_, ?_⟩, ⟨le, rfl, rfl, rfl, by simp, fun r _ h1 _ => hother r (fun er => h1 b v L e er.symm), ?_, fun _ _ e => .inl e, fun _ _ _ e => .inl e⟩⟩
  · intro b' v' L' e'
    rcases Ren.addLoc_inv e' with ⟨rfl, rfl, rfl⟩ | e''
    · refine ⟨l ++ xs, v + 1, mn, _, t0, by simp [hbl], hall, ⟨hrow, ?_, ?_, ?_, ?_, Nat.le_refl _, by omega, ?_, ?_⟩⟩
      · dsimp only; simp; omega
      · dsimp only; omega
      · dsimp only; simp
      · dsimp only; omega
      · intro _; simp
      · intro _ j x hlo hj hx
        dsimp only at hlo hj ⊢
        simp only [List.getElem?_toArray]
        by_cases hjl : j < l.length
        · rw [List.getElem?_append_left hjl] at hx
          obtain ⟨y, hy, hr⟩ := hk0.cell hmn j x hlo (by omega) hx
          refine ⟨y, ?_, hr.mono le⟩
          rw [List.getElem?_append_left (by simp; omega), List.getElem?_append_left (by simp; omega), List.getElem?_take, if_pos (by omega), Array.getElem?_toList]
          exact hy
        · rw [List.getElem?_append_right (by omega)] at hx
          obtain ⟨y, hy, hr⟩ := hv.get hx
          refine ⟨y, ?_, hr.mono le⟩
          have := (List.getElem?_eq_some_iff.1 hx).1
          rw [List.getElem?_append_left (by simp; omega), List.getElem?_append_right (by simp; omega), ← hy]
          congr 1; simp; omega
    · obtain ⟨l', ver', mn', c', t', hg2, ho2, hk2⟩ := h.loc b' v' L' e''
      by_cases hbb : b' = b
      · subst hbb
        have hg3 : H[b']? = some (.cells l' ver' mn') := hg2
        rw [hg] at hg3
        simp only [Option.some.injEq, Box.cells.injEq] at hg3
        obtain ⟨rfl, rfl, rfl⟩ := hg3
        by_cases hrr : L'.r = L.r
        · have hblk := hk2.blk
          rw [hrr, hk0.blk] at hblk
          simp only [Option.some.injEq, Obj.cells.injEq] at hblk
          obtain ⟨rfl, rfl, _⟩ := hblk
          have hlo := (h.inj b' v' L' b' v L e'' e hrr).2
          have hil2 := hk2.hil
          refine ⟨l ++ xs, v + 1, mn, _, t0, by simp [hbl], hall, ⟨by rw [hrr]; exact hrow, ?_, hk2.lohi, ?_, hk2.fit, ?_, by omega, ?_, ?_⟩⟩
          · have := hk2.n; simp; omega
          · simp; omega
          · have := hk2.vv; omega
          · intro hv'; have := hk2.vv; omega
          · intro hv' j x hlo' hj hx
            rw [List.getElem?_append_left (by omega)] at hx
            obtain ⟨y, hy, hr⟩ := hk2.cell hv' j x hlo' hj hx
            refine ⟨y, ?_, hr.mono le⟩
            simp only [List.getElem?_toArray]
            rw [List.getElem?_append_left (by simp; omega), List.getElem?_append_left (by simp; omega), List.getElem?_take, if_pos (by omega), Array.getElem?_toList]
            exact hy
        · have hp := hk2.mono le
          refine ⟨l ++ xs, v + 1, mn, c', t', by simp [hbl], hall, ⟨by rw [hother _ hrr]; exact hp.blk, hp.n, hp.lohi, ?_, hp.fit, ?_, by omega, ?_, ?_⟩⟩
          · have := hp.hil; simp; omega
          · have := hp.vv; omega
          · intro hv'; have := hp.vv; omega
          · intro hv' j x hlo' hj hx
            have := hp.hil
            exact hp.cell hv' j x hlo' hj (by rw [List.getElem?_append_left (by omega)] at hx; exact hx)
      · have hp := hk2.mono le
        have hrr : L'.r ≠ L.r := fun er => hbb (h.inj b' v' L' b v L e'' e er).1
        refine ⟨l', ver', mn', c', t', ?_, ho2, ⟨by rw [hother _ hrr]; exact hp.blk, hp.n, hp.lohi, hp.hil, hp.fit, hp.vv, hp.mv, hp.top, hp.cell⟩⟩
        show (H.set b _)[b']? = _
        rw [getElem?_set_heap hbl, if_neg hbb]; exact hg2
  · intro b1 v1 L1 b2 v2 L2 e1 e2 er
    rcases Ren.addLoc_inv e1 with ⟨rfl, rfl, rfl⟩ | e1' <;> rcases Ren.addLoc_inv e2 with ⟨rfl, rfl, rfl⟩ | e2'
    · exact ⟨rfl, rfl⟩
    · exact h.inj _ v L _ v2 L2 e e2' er
    · exact h.inj _ v1 L1 _ v L e1' e er
    · exact h.inj b1 v1 L1 b2 v2 L2 e1' e2' er
  · intro b' r e'
    obtain ⟨es, clock, es', hg2, hk2, hmm⟩ := h.mp b' r e'
    have hne : b' ≠ b := by
      rintro rfl
      have hg3 : H[b']? = some (.map es clock) := hg2
      rw [hg] at hg3; simp at hg3
    refine ⟨es, clock, es', ?_, by rw [hother r (fun er => h.locmp e e' er.symm)]; exact hk2, hmm.mono le⟩
    show (H.set b _)[b']? = _
    rw [getElem?_set_heap hbl, if_neg hne]; exact hg2
  · intro r j x e'
    obtain ⟨c', t', fz, y, hb', hy, hr⟩ := h.im r j x e'
    exact ⟨c', t', fz, y, by rw [hother r (fun er => h.imloc r j x b v L e' e er.symm)]; exact hb', hy, hr.mono le⟩
  · intro r j x b' v' L' e1 e'
    rcases Ren.addLoc_inv e' with ⟨rfl, rfl, rfl⟩ | e''
    · exact h.imloc r j x _ v L e1 e
    · exact h.imloc r j x b' v' L' e1 e''
  · intro b' v' L' e'
    rcases Ren.addLoc_inv e' with ⟨rfl, rfl, rfl⟩ | e''
    · exact .inl ⟨v, L, e, rfl⟩
    · exact .inl ⟨v', L', e'', rfl⟩

end Go.PE
