/- The operations that write memory. Nothing of a program stands here. -/
import Derived.Test.YtbpkjhamidpoeaaGreatDoorE13
namespace Go.PE

section
variable {P : Program} {R : Ren}

theorem writeCells_step {H H' : Heap} {b v off : Nat} {cs : List V} (h : writeCells H b v off cs = some H') (d : R.Dom b) : StepH R H R H' := by
  unfold writeCells at h
  split at h
  · split at h
    · simp only [Option.some.injEq] at h; subst h
      exact .set d _
    · simp at h
  · simp at h

theorem store_ok {t : TypeId} {g : Bool} {n : Nat} (hs : shapeT P t = some (g, n)) {p x : V} {p' x' : Value} (hp : VR R p p') (hx : VR R x x') {H H' : Heap} (h : storeE n p x H = some H') {w : World} (hrel : Rel R (H[·]?) w) :
    ∃ w', (Instr.storeAt t p' x').run P w = .ok () w' ∧ StepR R w R w' ∧ Rel R (H'[·]?) w' ∧ StepH R H R H' := by
  cases hp <;> simp only [storeE, reduceCtorEq] at h
  rename_i b v off ext L a1 a2 a3
  split at h
  · rename_i hc
    have hcs := hx.cells
    have hlen := hcs.length
    obtain ⟨w', h1, h2, h3⟩ := hrel.write (P := P) a1 a2 (by omega) hcs h
    refine ⟨w', ?_, h2, h3, writeCells_step h (.inl ⟨v, L, a1⟩)⟩
    have hsz : x'.cells.size = n := by simp at hlen; omega
    simp [Instr.storeAt, Instr.sureAddr, storeVar, run_sizeT (shapeT_ok hs).1, hsz, h1]
  · simp at h

theorem Rel.setMap {H : Heap} {w : World} (h : Rel R (H[·]?) w) {b r : Nat} (hb : R.mp b = some r) {es1 : List (V × V × Nat)} {es2 : Array MapEntry} {c : Nat} (hm : MapR R es1 es2.toList) :
    Rel R ((H.set b (.map es1 c))[·]?) { w with heap := w.heap.setIfInBounds r (.map es2 c) } ∧ StepR R w R { w with heap := w.heap.setIfInBounds r (.map es2 c) } := by
  obtain ⟨es0, c0, es0', hg0, hb0, _⟩ := h.mp b r hb
  have hbl : b < H.length := (List.getElem?_eq_some_iff.1 (show H[b]? = some (.map es0 c0) from hg0)).1
  have hrl : r < w.heap.size := (Array.getElem?_eq_some_iff.1 hb0).1
  have hother : ∀ k, k ≠ r → ({ w with heap := w.heap.setIfInBounds r (.map es2 c) } : World).heap[k]? = w.heap[k]? := by
    intro k hk
    show (w.heap.setIfInBounds r _)[k]? = _
    rw [Array.getElem?_setIfInBounds, if_neg (fun e => hk e.symm)]
  refine ⟨⟨?_, h.inj, ?_, h.mpinj, ?_, h.imloc⟩, ⟨.refl R, rfl, rfl, rfl, by simp, fun k hk h1 h2 => hother k (fun e => h2 b (e ▸ hb)), fun _ v L h => .inl ⟨v, L, h, rfl⟩, fun _ _ e => .inl e, fun _ _ _ e => .inl e⟩⟩
  · intro b' v L e
    obtain ⟨l, ver, mn, c1, t, hg, ho, hk⟩ := h.loc b' v L e
    have hne : b' ≠ b := by
      rintro rfl
      have : H[b']? = some (.cells l ver mn) := hg
      have h2 : H[b']? = some (.map es0 c0) := hg0
      rw [h2] at this; simp at this
    refine ⟨l, ver, mn, c1, t, ?_, ho, ⟨?_, hk.n, hk.lohi, hk.hil, hk.fit, hk.vv, hk.mv, hk.top, hk.cell⟩⟩
    · show (H.set b _)[b']? = _
      rw [getElem?_set_heap hbl, if_neg hne]; exact hg
    · rw [hother _ (h.locmp e hb)]; exact hk.blk
  · intro b' r' e
    by_cases hbb : b' = b
    · subst hbb
      rw [hb] at e
      simp only [Option.some.injEq] at e; subst e
      refine ⟨es1, c, es2, by simp [hbl], ?_, hm⟩
      show (w.heap.setIfInBounds r _)[r]? = _
      simp [hrl]
    · obtain ⟨es, clock, es', hg, hk, hmm⟩ := h.mp b' r' e
      refine ⟨es, clock, es', ?_, ?_, hmm⟩
      · show (H.set b _)[b']? = _
        rw [getElem?_set_heap hbl, if_neg hbb]; exact hg
      · rw [hother r' (fun er => hbb (h.mpinj b' b r (er ▸ e) hb))]; exact hk
  · intro r' j x e
    obtain ⟨c', t', fz, y, hb', hy, hr⟩ := h.im r' j x e
    refine ⟨c', t', fz, y, ?_, hy, hr⟩
    rw [hother r' (fun er => by rw [er, hb0] at hb'; simp at hb')]; exact hb'

theorem upd_ok {k0 : IntKind} {a : IntKind} {m : Int} {x : V} {x' : Value} (hx : VR R x x') (clock : Nat) : ∀ {es es1 : List (V × V × Nat)} {es' : List MapEntry}, MapR R es es' → updE (.int a m) x clock es = some es1 → ∀ (i : Nat),
    (∃ j e, Instr.findNow (.int k0) (.int a m) es' i = some (some (i + j, e)) ∧ (∃ q, es'[j]? = some q ∧ q.key = .int a m) ∧ es1.length = es.length ∧
      MapR R es1 (es'.modify j fun e => { e with key := .int a m, val := x' })) ∨
    (Instr.findNow (.int k0) (.int a m) es' i = some none ∧ es1.length = es.length + 1 ∧ MapR R es1 (es' ++ [{ key := .int a m, val := x', born := clock }]))
  | _, es1, _, .nil, h, i => by
    simp only [updE, Option.some.injEq] at h; subst h
    exact .inr ⟨rfl, rfl, .cons (.int _ _) hx rfl .nil⟩
  | _, es1, _, .cons (k := kk) (v := vv) (n := nn) (e := e) (l := l) (es := es) hk hv hn hrest, h, i => by
    cases kk <;> simp only [updE, reduceCtorEq] at h
    rename_i b1 n1
    have hke := int_of_VR hk rfl
    split at h
    · rename_i hab
      subst hab
      split at h
      · rename_i hmn
        simp only [Option.some.injEq] at h; subst h
        have hmn' : m = n1 := by simpa using hmn
        refine .inl ⟨0, e.val, ?_, ⟨e, rfl, by rw [hke, hmn']⟩, rfl, ?_⟩
        · simp only [Instr.findNow, Instr.sameNow, hke, if_true, hmn, Nat.add_zero]
        · exact .cons (.int _ _) hx hn hrest
      · rename_i hmn
        rw [Option.map_eq_some_iff] at h
        obtain ⟨es2, h2, rfl⟩ := h
        have hmn' : (m == n1) = false := by simpa using hmn
        rcases upd_ok (k0 := k0) hx clock hrest h2 (i + 1) with ⟨j, e2, g1, ⟨q, g2, g3⟩, g4, g5⟩ | ⟨g1, g4, g5⟩
        · refine .inl ⟨j + 1, e2, ?_, ⟨q, by simpa using g2, g3⟩, by simp [g4], ?_⟩
          · simp only [Instr.findNow, Instr.sameNow, hke, if_true, hmn']
            rw [g1]; congr 3; omega
          · simpa using MapR.cons hk hv hn g5
        · refine .inr ⟨?_, by simp [g4], ?_⟩
          · simp only [Instr.findNow, Instr.sameNow, hke, if_true, hmn']
            exact g1
          · exact .cons hk hv hn g5
    · simp at h

theorem mapUpd_ok {t key el : TypeId} {k0 : IntKind} (hu : P.underlying t = some (.map key el)) (hk0 : P.underlying key = some (.int k0)) {m k x : V} {m' k' x' : Value} (hm : VR R m m') (hk : VR R k k') (hx : VR R x x')
    {H H' : Heap} (h : mapUpdE m k x H = some H') {w : World} (hrel : Rel R (H[·]?) w) : ∃ w', (Instr.mapUpdate t m' k' x').run P w = .ok () w' ∧ StepR R w R w' ∧ Rel R (H'[·]?) w' ∧ StepH R H R H' := by
  cases hm <;> simp only [mapUpdE, reduceCtorEq] at h
  rename_i b rr hr
  cases hk <;> simp only [reduceCtorEq] at h
  rename_i a n
  split at h
  · rename_i es clock hg
    obtain ⟨es1, clock1, es', hg1, hb1, hmr⟩ := hrel.mp b rr hr
    have hg1' : H[b]? = some (.map es1 clock1) := hg1
    rw [hg] at hg1'
    simp only [Option.some.injEq, Box.map.injEq] at hg1'
    obtain ⟨rfl, rfl⟩ := hg1'
    rw [Option.map_eq_some_iff] at h
    obtain ⟨es2, h2, rfl⟩ := h
    have hck := run_checkKey hk0 false 9999 a n w
    have hset : ∀ (o : Obj), (∀ c e f, o ≠ .cells c e f) → (setObj rr o).run P w = .ok () { w with heap := w.heap.setIfInBounds rr o } := by
      intro o _
      simp [setObj, Sem.run, hb1]
    rcases upd_ok (k0 := k0) hx clock hmr h2 0 with ⟨j, e2, g1, ⟨q, g2, g3⟩, g4, g5⟩ | ⟨g1, g4, g5⟩
    · have hfk : (Instr.findKey key (.int a n) es'.toList).run P w = .ok (some (j, e2)) w := by
        simp only [Instr.findKey, Sem.run_bind, run_underlying hk0, Result.andThen_ok, g1, Sem.run_pure, Nat.zero_add]
      have hsb : Instr.sameBits 10000 (.int a n) (.int a n) = true := by simp [Instr.sameBits]
      have hq : es'[j]? = some q := by rw [← Array.getElem?_toList]; exact g2
      obtain ⟨r1, r2⟩ := hrel.setMap hr (es1 := es2) (es2 := es'.modify j fun e => { e with key := .int a n, val := x' }) (c := clock) (by simpa using g5)
      refine ⟨_, ?_, r2, ?_, .set (.inr ⟨rr, hr⟩) _⟩
      · simp only [Instr.mapUpdate, Sem.run_bind, run_underlying hu, Result.andThen_ok, run_getMap hb1, hck, hfk, hq, Option.map_some, Option.getD_some, g3, Instr.keyThatStays, hsb, if_true, Sem.run_pure]
        rw [hset _ (by simp)]
      · rw [if_pos g4]; exact r1
    · have hfk : (Instr.findKey key (.int a n) es'.toList).run P w = .ok none w := by
        simp only [Instr.findKey, Sem.run_bind, run_underlying hk0, Result.andThen_ok, g1, Sem.run_pure]
      obtain ⟨r1, r2⟩ := hrel.setMap hr (es1 := es2) (es2 := es'.push { key := .int a n, val := x', born := clock }) (c := clock + 1) (by simpa using g5)
      refine ⟨_, ?_, r2, ?_, .set (.inr ⟨rr, hr⟩) _⟩
      · simp only [Instr.mapUpdate, Sem.run_bind, run_underlying hu, Result.andThen_ok, run_getMap hb1, hck, hfk]
        rw [hset _ (by simp)]
      · rw [if_neg (by omega)]; exact r1
  · simp at h

end
end Go.PE
