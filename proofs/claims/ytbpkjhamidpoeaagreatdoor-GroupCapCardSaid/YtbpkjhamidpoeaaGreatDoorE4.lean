/- Memory: the relation between the abstract heap and the model's, and what reading, writing and making memory do to it. Nothing of a program stands here. -/
import Derived.Test.YtbpkjhamidpoeaaGreatDoorE3
namespace Go.PE

abbrev Get := Nat → Option Box

inductive MapR (R : Ren) : List (V × V × Nat) → List MapEntry → Prop
  | nil : MapR R [] []
  | cons {k v : V} {n : Nat} {e : MapEntry} {l : List (V × V × Nat)} {es : List MapEntry} :
      VR R k e.key → VR R v e.val → n = e.born → MapR R l es → MapR R ((k, v, n) :: l) (e :: es)

theorem MapR.mono {R R' : Ren} (h : R.Le R') : ∀ {l : List (V × V × Nat)} {es : List MapEntry}, MapR R l es → MapR R' l es
  | _, _, .nil => .nil
  | _, _, .cons a b c d => .cons (a.mono h) (b.mono h) c (d.mono h)

/-- A version of a row stands in the model's memory as the abstract heap has it. -/
structure LocOK (R : Ren) (w : World) (v : Nat) (L : Loc) (l : List V) (ver mn : Nat) (c : Array Value) (e : TypeId) : Prop where
  blk : w.heap[L.r]? = some (.cells c e (0, 0))
  n : c.size = L.n
  lohi : L.lo ≤ L.hi
  hil : L.hi ≤ l.length
  fit : L.hi - L.lo ≤ L.n
  vv : v ≤ ver
  mv : mn ≤ ver
  top : v = ver → L.hi = l.length
  cell : mn ≤ v → ∀ (j : Nat) (x : V), L.lo ≤ j → j < L.hi → l[j]? = some x → ∃ y, c[j - L.lo]? = some y ∧ VR R x y

structure Rel (R : Ren) (g : Get) (w : World) : Prop where
  loc : ∀ b v L, R.loc b v = some L → ∃ l ver mn c e, g b = some (.cells l ver mn) ∧ l.all V.one = true ∧ LocOK R w v L l ver mn c e
  inj : ∀ b v L b' v' L', R.loc b v = some L → R.loc b' v' = some L' → L.r = L'.r → b = b' ∧ L.lo = L'.lo
  mp : ∀ b r, R.mp b = some r → ∃ es clock es', g b = some (.map es clock) ∧ w.heap[r]? = some (.map es' clock) ∧ MapR R es es'.toList
  mpinj : ∀ b b' r, R.mp b = some r → R.mp b' = some r → b = b'
  im : ∀ r j x, R.im r j = some x → ∃ c e fz y, w.heap[r]? = some (.cells c e fz) ∧ c[j]? = some y ∧ VR R x y
  imloc : ∀ r j x b v L, R.im r j = some x → R.loc b v = some L → L.r ≠ r

/-- What a step may do: the streams stand; blocks that no row or map of the heap lies in stand; new places are new blocks, or blocks of rows that were there. -/
structure StepR (R : Ren) (w : World) (R' : Ren) (w' : World) : Prop where
  le : R.Le R'
  os : w'.os = w.os
  tape : w'.tape = w.tape
  output : w'.output = w.output
  size : w.heap.size ≤ w'.heap.size
  keep : ∀ r, r < w.heap.size → (∀ b v L, R.loc b v = some L → L.r ≠ r) → (∀ b, R.mp b ≠ some r) → w'.heap[r]? = w.heap[r]?
  new : ∀ b v L, R'.loc b v = some L → (∃ v0 L0, R.loc b v0 = some L0 ∧ L0.r = L.r) ∨ w.heap.size ≤ L.r
  newm : ∀ b r, R'.mp b = some r → R.mp b = some r ∨ w.heap.size ≤ r
  newi : ∀ r j x, R'.im r j = some x → R.im r j = some x ∨ w.heap.size ≤ r

theorem StepR.refl (R : Ren) (w : World) : StepR R w R w :=
  ⟨.refl R, rfl, rfl, rfl, Nat.le_refl _, fun _ _ _ _ => rfl, fun _ v L h => .inl ⟨v, L, h, rfl⟩, fun _ _ h => .inl h, fun _ _ _ h => .inl h⟩

theorem StepR.trans {R R' R'' : Ren} {w w' w'' : World} (h : StepR R w R' w') (k : StepR R' w' R'' w'') : StepR R w R'' w'' where
  le := h.le.trans k.le
  os := k.os.trans h.os
  tape := k.tape.trans h.tape
  output := k.output.trans h.output
  size := Nat.le_trans h.size k.size
  keep r hr h1 h2 := by
    have hs := h.size
    rw [k.keep r (by omega) (fun b v L e => ?_) (fun b e => ?_), h.keep r hr h1 h2]
    · rcases h.new b v L e with ⟨v0, L0, e0, er⟩ | hge
      · rw [← er]; exact h1 b v0 L0 e0
      · omega
    · rcases h.newm b r e with e0 | hge
      · exact h2 b e0
      · omega
  new b v L e := by
    rcases k.new b v L e with ⟨v0, L0, e0, er⟩ | hge
    · rcases h.new b v0 L0 e0 with ⟨v1, L1, e1, er1⟩ | hge
      · exact .inl ⟨v1, L1, e1, er1.trans er⟩
      · exact .inr (er ▸ hge)
    · exact .inr (Nat.le_trans h.size hge)
  newm b r e := by
    rcases k.newm b r e with e0 | hge
    · exact h.newm b r e0
    · exact .inr (Nat.le_trans h.size hge)
  newi r j x e := by
    rcases k.newi r j x e with e0 | hge
    · exact h.newi r j x e0
    · exact .inr (Nat.le_trans h.size hge)

/-- Is a row or a map of the heap named? -/
def Ren.Dom (R : Ren) (b : Nat) : Prop := (∃ v L, R.loc b v = some L) ∨ ∃ r, R.mp b = some r

theorem Ren.Le.dom {R R' : Ren} (h : R.Le R') {b : Nat} (d : R.Dom b) : R'.Dom b := by
  rcases d with ⟨v, L, e⟩ | ⟨r, e⟩
  · exact .inl ⟨v, L, h.loc b v L e⟩
  · exact .inr ⟨r, h.mp b r e⟩

/-- What a step may do to the abstract heap: it grows; what is named newly is new; what isn't named stands. -/
structure StepH (R : Ren) (H : Heap) (R' : Ren) (H' : Heap) : Prop where
  len : H.length ≤ H'.length
  dom : ∀ b, R'.Dom b → R.Dom b ∨ H.length ≤ b
  keep : ∀ b, b < H.length → ¬ R.Dom b → H'[b]? = H[b]?

theorem StepH.refl (R : Ren) (H : Heap) : StepH R H R H := ⟨Nat.le_refl _, fun _ h => .inl h, fun _ _ _ => rfl⟩

theorem StepH.trans {R R' R'' : Ren} {H H' H'' : Heap} (h : StepH R H R' H') (k : StepH R' H' R'' H'') : StepH R H R'' H'' where
  len := Nat.le_trans h.len k.len
  dom b d := by
    rcases k.dom b d with d' | hge
    · exact h.dom b d'
    · exact .inr (Nat.le_trans h.len hge)
  keep b hb hd := by
    have hl := h.len
    rw [k.keep b (by omega) (fun d => ?_), h.keep b hb hd]
    rcases h.dom b d with d' | hge
    · exact hd d'
    · omega

theorem StepH.set {R : Ren} {H : Heap} {b : Nat} (d : R.Dom b) (x : Box) : StepH R H R (H.set b x) :=
  ⟨by simp, fun _ h => .inl h, fun k _ hk => by
    rw [List.getElem?_set, if_neg]
    rintro rfl
    exact hk d⟩

theorem StepH.mono {R R' : Ren} {H H' : Heap} (h : StepH R H R H') (d : ∀ b, R'.Dom b → R.Dom b ∨ H.length ≤ b) : StepH R H R' H' := ⟨h.len, d, h.keep⟩

theorem StepH.push {R R' : Ren} {H : Heap} (x : Box) (d : ∀ b, R'.Dom b → R.Dom b ∨ b = H.length) : StepH R H R' (H ++ [x]) :=
  ⟨by simp, fun b hb => (d b hb).imp id fun e => Nat.le_of_eq e.symm, fun k hk _ => by rw [List.getElem?_append_left hk]⟩

/-- A draw turns nothing. -/
theorem StepR.drew (R : Ren) (w : World) (n : Nat) : StepR R w R { w with drawn := n } :=
  ⟨.refl R, rfl, rfl, rfl, Nat.le_refl _, fun _ _ _ _ => rfl, fun _ v L h => .inl ⟨v, L, h, rfl⟩, fun _ _ h => .inl h, fun _ _ _ h => .inl h⟩

theorem Rel.drew {R : Ren} {g : Get} {w : World} (h : Rel R g w) (n : Nat) : Rel R g { w with drawn := n } where
  loc b v L e := by
    obtain ⟨l, ver, mn, c, t, hg, ho, hk⟩ := h.loc b v L e
    exact ⟨l, ver, mn, c, t, hg, ho, ⟨hk.blk, hk.n, hk.lohi, hk.hil, hk.fit, hk.vv, hk.mv, hk.top, hk.cell⟩⟩
  inj := h.inj
  mp := h.mp
  mpinj := h.mpinj
  im := h.im
  imloc := h.imloc

theorem Rel.lt {R : Ren} {g : Get} {w : World} (h : Rel R g w) {b v : Nat} {L : Loc} (e : R.loc b v = some L) : L.r < w.heap.size := by
  obtain ⟨l, ver, mn, c, t, hg, ho, hk⟩ := h.loc b v L e
  exact (Array.getElem?_eq_some_iff.1 hk.blk).1

theorem Rel.mlt {R : Ren} {g : Get} {w : World} (h : Rel R g w) {b r : Nat} (e : R.mp b = some r) : r < w.heap.size := by
  obtain ⟨es, clock, es', hg, hk, _⟩ := h.mp b r e
  exact (Array.getElem?_eq_some_iff.1 hk).1

theorem Rel.ilt {R : Ren} {g : Get} {w : World} (h : Rel R g w) {r j : Nat} {x : V} (e : R.im r j = some x) : r < w.heap.size := by
  obtain ⟨c, t, fz, y, hk, _⟩ := h.im r j x e
  exact (Array.getElem?_eq_some_iff.1 hk).1

theorem Rel.locmp {R : Ren} {g : Get} {w : World} (h : Rel R g w) {b v b' r : Nat} {L : Loc} (e : R.loc b v = some L) (e' : R.mp b' = some r) : L.r ≠ r := by
  obtain ⟨l, ver, mn, c, t, hg, ho, hk⟩ := h.loc b v L e
  obtain ⟨es, clock, es', hg', hk', _⟩ := h.mp b' r e'
  intro heq
  have := hk.blk
  rw [heq, hk'] at this
  simp at this

theorem addr_add (r o n : Nat) : (⟨r, o, none⟩ : Addr).add n = ⟨r, o + n, none⟩ := by
  unfold Addr.add; split <;> simp_all

/-- Reading cells through a version of a row. -/
theorem Rel.read {R : Ren} {H : Heap} {w : World} (h : Rel R (H[·]?) w) {b v off n : Nat} {L : Loc} {cs : List V} (e : R.loc b v = some L) (h1 : L.lo ≤ off)
    (h2 : off + n ≤ L.hi) (hr : readCells H b v off n = some cs) :
    cs.length = n ∧ ∃ xs : List Value, VRL R cs xs ∧ ∀ (j : Nat) (y : Value), xs[j]? = some y → w.cell? ((⟨L.r, off - L.lo, none⟩ : Addr).add j) = some y := by
  obtain ⟨l, ver, mn, c, t, hg, ho, hk⟩ := h.loc b v L e
  have hg' : H[b]? = some (.cells l ver mn) := hg
  simp only [readCells, hg'] at hr
  split at hr
  · rename_i hc
    have hcs : cs = (l.drop off).take n := by simpa using hr.symm
    subst hcs
    have hlen : ((l.drop off).take n).length = n := by simp; omega
    have hhil := hk.hil
    have hfit := hk.fit
    have hn := hk.n
    refine ⟨hlen, (c.toList.drop (off - L.lo)).take n, VRL.of_get ?_ ?_, ?_⟩
    · rw [hlen]; simp; omega
    · intro j x hx
      have hj : j < n := by
        have := (List.getElem?_eq_some_iff.1 hx).1
        rw [hlen] at this; exact this
      have hx' : l[off + j]? = some x := by
        rw [List.getElem?_take, if_pos hj, List.getElem?_drop] at hx; exact hx
      obtain ⟨y, hy, hv⟩ := hk.cell hc.1 (off + j) x (by omega) (by omega) hx'
      refine ⟨y, ?_, hv⟩
      rw [List.getElem?_take, if_pos hj, List.getElem?_drop, Array.getElem?_toList, ← hy]
      congr 1; omega
    · intro j y hy
      have hj : j < n := by
        have := (List.getElem?_eq_some_iff.1 hy).1
        simp at this; omega
      rw [List.getElem?_take, if_pos hj, List.getElem?_drop, Array.getElem?_toList] at hy
      rw [addr_add]
      simp only [World.cell?, hk.blk]
      simpa using hy
  · simp at hr

/-- Reading cells through a pointer into memory that never turns. -/
theorem Rel.readIm {R : Ren} {g : Get} {w : World} (h : Rel R g w) {l : List V} {r o : Nat} (k : ∀ (j : Nat) (x : V), l[j]? = some x → R.im r (o + j) = some x) (n : Nat) (hn : n ≤ l.length) :
    ∃ xs : List Value, VRL R (l.take n) xs ∧ ∀ (j : Nat) (y : Value), xs[j]? = some y → w.cell? ((⟨r, o, none⟩ : Addr).add j) = some y := by
  by_cases hz : n = 0
  · subst hz; exact ⟨[], by simpa using VRL.nil, by simp⟩
  · have h0 : ∃ x, l[0]? = some x := ⟨l[0]'(by omega), by simp⟩
    obtain ⟨x0, hx0⟩ := h0
    obtain ⟨c, t, fz, y0, hb, _, _⟩ := h.im r (o + 0) x0 (k 0 x0 hx0)
    have hall : ∀ (j : Nat) (x : V), l[j]? = some x → ∃ y, c[o + j]? = some y ∧ VR R x y := by
      intro j x hx
      obtain ⟨c', t', fz', y, hb', hy, hv⟩ := h.im r (o + j) x (k j x hx)
      rw [hb] at hb'
      simp only [Option.some.injEq, Obj.cells.injEq] at hb'
      obtain ⟨rfl, _, _⟩ := hb'
      exact ⟨y, hy, hv⟩
    have hlast : o + (n - 1) < c.size := by
      obtain ⟨y, hy, _⟩ := hall (n - 1) (l[n - 1]'(by omega)) (by simp)
      exact (Array.getElem?_eq_some_iff.1 hy).1
    refine ⟨(c.toList.drop o).take n, VRL.of_get (by simp; omega) ?_, ?_⟩
    · intro j x hx
      have hj : j < n := by
        have := (List.getElem?_eq_some_iff.1 hx).1
        simp at this; omega
      rw [List.getElem?_take, if_pos hj] at hx
      obtain ⟨y, hy, hv⟩ := hall j x hx
      refine ⟨y, ?_, hv⟩
      rw [List.getElem?_take, if_pos hj, List.getElem?_drop, Array.getElem?_toList, ← hy]
    · intro j y hy
      have hj : j < n := by
        have := (List.getElem?_eq_some_iff.1 hy).1
        simp at this; omega
      rw [List.getElem?_take, if_pos hj, List.getElem?_drop, Array.getElem?_toList] at hy
      rw [addr_add]
      simp only [World.cell?, hb]
      simpa using hy

theorem getElem?_splice {l cs : List V} {off j : Nat} (h : off + cs.length ≤ l.length) :
    (splice l off cs)[j]? = if j < off then l[j]? else if j < off + cs.length then cs[j - off]? else l[j]? := by
  unfold splice
  have h1 : (l.take off).length = off := by simp; omega
  by_cases a : j < off
  · rw [if_pos a, List.append_assoc, List.getElem?_append_left (by omega), List.getElem?_take, if_pos a]
  · rw [if_neg a]
    by_cases b : j < off + cs.length
    · rw [if_pos b, List.getElem?_append_left (by simp; omega), List.getElem?_append_right (by omega), h1]
    · rw [if_neg b, List.getElem?_append_right (by simp; omega), List.getElem?_drop]
      congr 1
      simp; omega

theorem length_splice {l cs : List V} {off : Nat} (h : off + cs.length ≤ l.length) : (splice l off cs).length = l.length := by
  simp [splice]; omega

theorem all_splice {l cs : List V} {off : Nat} (h : l.all V.one = true) (k : cs.all V.one = true) : (splice l off cs).all V.one = true := by
  unfold splice
  rw [List.all_append, List.all_append, Bool.and_eq_true, Bool.and_eq_true]
  refine ⟨⟨List.all_eq_true.2 fun x hx => List.all_eq_true.1 h x (List.mem_of_mem_take hx), k⟩, List.all_eq_true.2 fun x hx => List.all_eq_true.1 h x (List.mem_of_mem_drop hx)⟩

theorem getElem?_set_heap {H : Heap} {b k : Nat} {x : Box} (hb : b < H.length) : (H.set b x)[k]? = if k = b then some x else H[k]? := by
  rw [List.getElem?_set]
  by_cases h : b = k
  · subst h; simp [hb]
  · rw [if_neg h, if_neg (fun e => h e.symm)]

/-- Writing cells through the newest version of a row. -/
theorem Rel.write {P : Program} {R : Ren} {H H' : Heap} {w : World} (h : Rel R (H[·]?) w) {b v off : Nat} {L : Loc} {cs : List V} {xs : List Value} (e : R.loc b v = some L) (h1 : L.lo ≤ off)
    (h2 : off + cs.length ≤ L.hi) (hx : VRL R cs xs) (hr : writeCells H b v off cs = some H') :
    ∃ w', (storeCells (⟨L.r, off - L.lo, none⟩ : Addr) xs).run P w = .ok () w' ∧ StepR R w R w' ∧ Rel R (H'[·]?) w' := by
  obtain ⟨l, ver, mn, c, t, hg, ho, hk⟩ := h.loc b v L e
  have hg' : H[b]? = some (.cells l ver mn) := hg
  have hbl : b < H.length := (List.getElem?_eq_some_iff.1 hg').1
  simp only [writeCells, hg'] at hr
  split at hr
  · rename_i hc
    obtain ⟨hv, hle, hone⟩ := hc
    subst hv
    have hH : H' = H.set b (.cells (splice l off cs) v v) := by simpa using hr.symm
    subst hH
    have hlen := hx.length
    have hhil := hk.hil
    have hfit := hk.fit
    have hn := hk.n
    have htop := hk.top rfl
    have hrun := run_storeCells_at P L.r (off - L.lo) t xs 0 c w hk.blk (by omega) (hx.one hone)
    simp only [Nat.add_zero] at hrun
    refine ⟨_, hrun, ⟨.refl R, rfl, rfl, rfl, by simp, fun r _ h1 _ => setRow_other w L.r r _ (fun er => h1 b v L e er.symm), fun _ v L h => .inl ⟨v, L, h, rfl⟩, fun _ _ h => .inl h, fun _ _ _ h => .inl h⟩, ?_⟩
    refine ⟨?_, h.inj, ?_, h.mpinj, ?_, h.imloc⟩
    · intro b' v' L' e'
      by_cases hbb : b' = b
      · subst hbb
        obtain ⟨l', ver', mn', c', t', hg2, ho2, hk2⟩ := h.loc b' v' L' e'
        rw [hg] at hg2
        simp only [Option.some.injEq, Box.cells.injEq] at hg2
        obtain ⟨rfl, rfl, rfl⟩ := hg2
        by_cases hrr : L'.r = L.r
        · have hblk2 := hk2.blk
          rw [hrr, hk.blk] at hblk2
          simp only [Option.some.injEq, Obj.cells.injEq] at hblk2
          obtain ⟨rfl, rfl, _⟩ := hblk2
          refine ⟨splice l off cs, v, v, (c.toList.take (off - L.lo) ++ xs ++ c.toList.drop (off - L.lo + xs.length)).toArray, t, by simp [hbl], all_splice ho hone, ⟨?_, ?_, hk2.lohi, ?_, hk2.fit, hk2.vv, Nat.le_refl _, ?_, ?_⟩⟩
          · rw [hrr]; exact setRow_heap w L.r c _ t _ hk.blk
          · have := hk2.n; simp; omega
          · rw [length_splice (by omega)]; exact hk2.hil
          · intro hv; rw [length_splice (by omega)]; exact hk2.top hv
          · intro hv j x hlo hhi hj
            have hvv : v' = v := Nat.le_antisymm hk2.vv hv
            subst hvv
            rw [e] at e'
            simp only [Option.some.injEq] at e'
            subst e'
            rw [getElem?_splice (by omega)] at hj
            simp only [List.getElem?_toArray]
            by_cases a1 : j < off
            · rw [if_pos a1] at hj
              obtain ⟨y, hy, hvr⟩ := hk.cell hk.mv j x hlo hhi hj
              refine ⟨y, ?_, hvr⟩
              rw [List.getElem?_append_left (by simp; omega), List.getElem?_append_left (by simp; omega), List.getElem?_take, if_pos (by omega), Array.getElem?_toList]
              exact hy
            · rw [if_neg a1] at hj
              by_cases a2 : j < off + cs.length
              · rw [if_pos a2] at hj
                obtain ⟨y, hy, hvr⟩ := hx.get hj
                refine ⟨y, ?_, hvr⟩
                rw [List.getElem?_append_left (by simp; omega), List.getElem?_append_right (by simp; omega), ← hy]
                congr 1
                simp; omega
              · rw [if_neg a2] at hj
                obtain ⟨y, hy, hvr⟩ := hk.cell hk.mv j x hlo hhi hj
                refine ⟨y, ?_, hvr⟩
                rw [List.getElem?_append_right (by simp; omega), List.getElem?_drop, Array.getElem?_toList, ← hy]
                congr 1
                simp; omega
        · refine ⟨splice l off cs, v, v, c', t', by simp [hbl], all_splice ho hone, ⟨?_, hk2.n, hk2.lohi, ?_, hk2.fit, hk2.vv, Nat.le_refl _, ?_, ?_⟩⟩
          · rw [setRow_other w L.r L'.r _ hrr]; exact hk2.blk
          · rw [length_splice (by omega)]; exact hk2.hil
          · intro hv; rw [length_splice (by omega)]; exact hk2.top hv
          · intro hv
            have hvv : v' = v := Nat.le_antisymm hk2.vv hv
            subst hvv
            rw [e] at e'
            simp only [Option.some.injEq] at e'
            subst e'
            exact absurd rfl hrr
      · obtain ⟨l', ver', mn', c', t', hg2, ho2, hk2⟩ := h.loc b' v' L' e'
        have hrr : L'.r ≠ L.r := fun er => hbb (h.inj b' v' L' b v L e' e er).1
        refine ⟨l', ver', mn', c', t', ?_, ho2, ⟨?_, hk2.n, hk2.lohi, hk2.hil, hk2.fit, hk2.vv, hk2.mv, hk2.top, hk2.cell⟩⟩
        · show (H.set b _)[b']? = _
          rw [getElem?_set_heap hbl, if_neg hbb]; exact hg2
        · rw [setRow_other w L.r L'.r _ hrr]; exact hk2.blk
    · intro b' r e'
      obtain ⟨es, clock, es', hg2, hk2, hm⟩ := h.mp b' r e'
      have hbb : b' ≠ b := by
        rintro rfl
        rw [hg] at hg2
        simp at hg2
      refine ⟨es, clock, es', ?_, ?_, hm⟩
      · show (H.set b _)[b']? = _
        rw [getElem?_set_heap hbl, if_neg hbb]; exact hg2
      · rw [setRow_other w L.r r _ (fun er => h.locmp e e' er.symm)]; exact hk2
    · intro r j x ei
      obtain ⟨c', t', fz, y, hb', hy, hv'⟩ := h.im r j x ei
      refine ⟨c', t', fz, y, ?_, hy, hv'⟩
      rw [setRow_other w L.r r _ (fun er => h.imloc r j x b v L ei e er.symm)]; exact hb'
  · simp at hr

end Go.PE
