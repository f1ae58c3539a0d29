/- A region that draws its order: whatever order it draws, it comes to what the evaluator gave. Nothing of a program stands here. -/
import Derived.Test.YtbpkjhamidpoeaaGreatDoorE22
import Derived.Test.YtbpkjhamidpoeaaGreatDoorE19
namespace Go.PE

/-! ### what is surely ahead -/

theorem fold_test (acc : List Nat) (x : Nat) : ∀ (l : List Edge) (s : Nat),
    (l.foldl (fun s e => if hard e then s ||| 2 ^ e.on ||| acc.getD e.on 0 else s) s).testBit x = true → s.testBit x = true ∨ ∃ e ∈ l, hard e = true ∧ (x = e.on ∨ (acc.getD e.on 0).testBit x = true)
  | [], s, h => .inl h
  | e :: l, s, h => by
    rw [List.foldl_cons] at h
    rcases fold_test acc x l _ h with h1 | ⟨e', h1, h2, h3⟩
    · split at h1
      · rename_i hh
        rw [Nat.testBit_or, Nat.testBit_or, Bool.or_eq_true, Bool.or_eq_true] at h1
        rcases h1 with (h1 | h1) | h1
        · exact .inl h1
        · rw [Nat.testBit_two_pow] at h1
          exact .inr ⟨e, List.mem_cons_self, hh, .inl (by have := h1; simp at this; exact this.symm)⟩
        · exact .inr ⟨e, List.mem_cons_self, hh, .inr h1⟩
      · exact .inl h1
    · exact .inr ⟨e', List.mem_cons_of_mem _ h1, h2, h3⟩

theorem befL_go : ∀ (l : List Oper) (acc : List Nat), acc <+: l.foldl (fun acc o => acc ++ [bitsOf acc o]) acc ∧
    (l.foldl (fun acc o => acc ++ [bitsOf acc o]) acc).length = acc.length + l.length ∧
    ∀ i, i < l.length → ∃ o acc', l[i]? = some o ∧ acc' <+: l.foldl (fun acc o => acc ++ [bitsOf acc o]) acc ∧ (l.foldl (fun acc o => acc ++ [bitsOf acc o]) acc)[acc.length + i]? = some (bitsOf acc' o)
  | [], acc => ⟨List.prefix_refl _, by simp, fun i hi => by simp at hi⟩
  | o :: l, acc => by
    obtain ⟨h1, h2, h3⟩ := befL_go l (acc ++ [bitsOf acc o])
    rw [List.foldl_cons]
    refine ⟨(List.prefix_append _ _).trans h1, by rw [h2]; simp; omega, fun i hi => ?_⟩
    cases i with
    | zero =>
      refine ⟨o, acc, rfl, (List.prefix_append _ _).trans h1, ?_⟩
      obtain ⟨t, ht⟩ := h1
      rw [← ht]
      simp
    | succ i =>
      obtain ⟨o', acc', j1, j2, j3⟩ := h3 i (by simpa using hi)
      refine ⟨o', acc', by simpa using j1, j2, ?_⟩
      rw [← j3]
      congr 1
      simp; omega

theorem bef_test {l : List Oper} {x i : Nat} (h : bef (befL l) x i = true) : ∃ o, l[i]? = some o ∧ ∃ e ∈ o.after.toList, hard e = true ∧ (x = e.on ∨ bef (befL l) x e.on = true) := by
  obtain ⟨h1, h2, h3⟩ := befL_go l []
  unfold bef at h ⊢
  have hlen : (befL l).length = l.length := by rw [befL, h2]; simp
  by_cases hi : i < l.length
  · obtain ⟨o, acc', j1, j2, j3⟩ := h3 i hi
    simp only [List.length_nil, Nat.zero_add] at j3
    have j3' : (befL l)[i]? = some (bitsOf acc' o) := j3
    rw [List.getD_eq_getElem?_getD, j3'] at h
    rcases fold_test acc' x o.after.toList 0 h with h4 | ⟨e, h4, h5, h6⟩
    · simp at h4
    · refine ⟨o, j1, e, h4, h5, h6.imp id fun h7 => ?_⟩
      obtain ⟨t, ht⟩ := j2
      have : befL l = acc' ++ t := ht.symm
      by_cases hlt : e.on < acc'.length
      · rw [List.getD_eq_getElem?_getD, this, List.getElem?_append_left hlt, ← List.getD_eq_getElem?_getD]; exact h7
      · rw [List.getD_eq_getElem?_getD, List.getElem?_eq_none (by omega)] at h7
        simp at h7
  · rw [List.getD_eq_getElem?_getD, List.getElem?_eq_none (by omega)] at h
    simp at h

theorem hard_binds {e : Edge} (h : hard e = true) (md : Region.Mode) : Region.binds md e = true := by
  unfold hard Region.binds at h
  unfold Region.binds
  split <;> simp_all

/-! ### counting -/

theorem countP_turn {α : Type} (p p' : α → Bool) (x : α) : ∀ (l : List α), l.Nodup → x ∈ l → p x = true → p' x = false → (∀ y, y ≠ x → p' y = p y) → l.countP p = l.countP p' + 1
  | [], _, h, _, _, _ => by simp at h
  | y :: l, hn, h, h1, h2, h3 => by
    rw [List.nodup_cons] at hn
    by_cases hy : y = x
    · subst hy
      rw [List.countP_cons_of_pos h1, List.countP_cons_of_neg (by simp [h2])]
      congr 1
      refine List.countP_congr fun z hz => ?_
      rw [h3 z (fun e => hn.1 (e ▸ hz))]
    · have hx : x ∈ l := by
        rcases List.mem_cons.1 h with e | e
        · exact absurd e.symm hy
        · exact e
      have := countP_turn p p' x l hn.2 hx h1 h2 h3
      rw [List.countP_cons, List.countP_cons, this, h3 y hy]
      omega

def openN (n : Nat) (listed : Array Bool) : Nat := (List.range n).countP fun j => !listed.getD j false

theorem openN_set {n : Nat} {listed : Array Bool} (hs : listed.size = n) {i : Nat} (hi : i < n) (h : listed.getD i true = false) : openN n listed = openN n (listed.setIfInBounds i true) + 1 := by
  have h1 : listed[i]? = some false := by
    rw [Array.getElem?_eq_getElem (by omega)]
    simp [hs, hi] at h
    simpa using h
  refine countP_turn _ _ i _ List.nodup_range (List.mem_range.2 hi) (by simp [Array.getD_eq_getD_getElem?, h1]) (by simp [Array.getD_eq_getD_getElem?, hs, hi]) fun y hy => ?_
  rw [getD_set_ne false (Ne.symm hy)]

theorem openN_zero {n : Nat} {listed : Array Bool} (h : openN n listed = 0) : ∀ j, j < n → listed.getD j false = true := by
  intro j hj
  unfold openN at h
  rw [List.countP_eq_zero] at h
  have := h j (List.mem_range.2 hj)
  simpa using this

section
variable {P : Program} {R : Ren}

theorem Rel.dom_lt {H : Heap} {w : World} (h : Rel R (H[·]?) w) {b : Nat} (d : R.Dom b) : b < H.length := by
  rcases d with ⟨v, L, hv⟩ | ⟨r, hr⟩
  · obtain ⟨l, ver, mn, c, t, hg, _⟩ := h.loc b v L hv
    exact (List.getElem?_eq_some_iff.1 hg).1
  · obtain ⟨es0, c0, es1, hg, _⟩ := h.mp b r hr
    exact (List.getElem?_eq_some_iff.1 hg).1

theorem Rel.pre {H H' : Heap} {w : World} (h : Rel R (H[·]?) w) (hp : H <+: H') : Rel R (H'[·]?) w :=
  h.congr fun b d => by
    obtain ⟨t, rfl⟩ := hp
    show (H ++ t)[b]? = H[b]?
    rw [List.getElem?_append_left (h.dom_lt d)]

theorem isAlloc_eq (op : EOp) : op.isAlloc = op.isNew := by cases op <;> rfl

/-- An operation that makes memory, at a place of the abstract heap that is laid for it. -/
theorem oper_new {ops : Array Oper} {o : Oper} {e : Env} {a : Act} (hE : VRL R e a.tmps.toList) {X : Ctx} {Hb : Heap} {bx : Box} {v : V} (hn : (cOper P ops o).op.isNew = true)
    (hw : (cOper P ops o).wanted e = true) (h : evalOp X e Hb (cOper P ops o).op = some (v, Hb ++ [bx])) {g : Heap} {w : World} (hrel : Rel R (g[·]?) w) (hg : g[Hb.length]? = some bx)
    (hd : ¬ R.Dom Hb.length) {next : Act → World → Prop} {Q : Exit → Act → World → Prop}
    (k : ∀ a' w' R', StepR R w R' w' → Rel R' (g[·]?) w' → VRL R' (e.put (cOper P ops o).dst v) a'.tmps.toList → a'.defers = a.defers → (∀ b, R'.Dom b → R.Dom b ∨ b = Hb.length) → next a' w') :
    if Region.wanted o (yielded ops a.tmps) then o.wp P a w next Q ∨ (o.asks P a w ∧ LetsOut Q) else next (a.put o.dst undef) w := by
  unfold cOper at hn hw h k
  split at hn
  · rename_i gd hgd
    simp only [hgd] at hw h k
    rw [guard_ok hgd hE o.dst ((cOp P o).getD .fail), if_pos hw]
    cases hc : cOp P o with
    | none => rw [hc] at hn; simp [EOp.isNew] at hn
    | some eo =>
      rw [hc] at hn h
      simp only [Option.getD_some] at hn h
      have hnone : (∀ v, R.loc Hb.length v = none) ∧ R.mp Hb.length = none := by
        refine ⟨fun v => ?_, ?_⟩
        · cases hv : R.loc Hb.length v with
          | none => rfl
          | some L => exact absurd (.inl ⟨v, L, hv⟩) hd
        · cases hv : R.mp Hb.length with
          | none => rfl
          | some r => exact absurd (.inr ⟨r, hv⟩) hd
      obtain ⟨_, h1⟩ := alloc_ok hc (by rw [isAlloc_eq]; exact hn) hE h
      have hm := h1 (g := (g[·]?)) (g' := (g[·]?)) (w := w) hrel hnone.1 hnone.2 (by
        intro bx' hb
        have : bx = bx' := by simpa using hb
        subst this
        exact hg) (fun _ _ _ => rfl)
      obtain ⟨v', w', R', r1, r2, r3, r4, r5⟩ := hm
      refine .inl ?_
      rcases r1 with hr | ⟨hr, rfl⟩
      · unfold Oper.wp
        rw [hr]
        exact k _ w' R' r2 r3 (put_ok (hE.mono r2.le) _ r4) (put_defers _ _ _) fun b hb => (r5 b hb).imp id (·.1)
      · unfold Oper.wp
        rw [hr]
        exact k _ w' R' r2 r3 (put_ok (hE.mono r2.le) _ r4) (put_defers _ _ _) fun b hb => (r5 b hb).imp id (·.1)
  · simp [EOp.isNew] at hn

/-! ### the standing of a region that is under way -/

section inv
variable (es : List EOper) (b : List Nat) (L : Lay) (e0 ef : Env) (H0 : Heap) (G : Nat → Heap) (A : Nat → Option (Nat × Box)) (R0 : Ren) (w0 : World) (d0 : List Deferred)

structure Inv (D : Nat → Prop) (k : Nat) (R : Ren) (a : Act) (w : World) : Prop where
  km : k ≤ L.m
  rel : Rel R ((G k)[·]?) w
  env : ∃ e : Env, VRL R e a.tmps.toList ∧ e.length = e0.length ∧ Views es e0 ef D (fun _ => True) e
  step : StepR R0 w0 R w
  hst : StepH R0 H0 R (G k)
  dfr : a.defers = d0
  wr : ∀ q, q < es.length → isWr es q = true → (D q ↔ L.lev.getD q 0 < k)
  closed : ∀ i j, D i → bef b j i = true → D j
  news : ∀ i, i < es.length → ∀ p, A i = some p → L.lev.getD i 0 ≤ k → H0.length ≤ p.1 ∧ p.1 < (G k).length ∧ (¬ D i → (G k)[p.1]? = some p.2 ∧ ¬ R.Dom p.1)
  dis : ∀ i j, i < es.length → j < es.length → i ≠ j → ∀ p p', A i = some p → A j = some p' → L.lev.getD i 0 ≤ k → L.lev.getD j 0 ≤ k → p.1 ≠ p'.1
end inv

theorem views_put {es : List EOper} {e0 ef e : Env} {D : Nat → Prop} {i : Nat} (hi : i < es.length) {v : V} (hl : ef.length = e0.length) (hle : e.length = e0.length)
    (hv : ∀ t, dstAt es i = some t → t < e0.length → ef.getD t V.undef = v) (h : Views es e0 ef D (fun _ => True) e) :
    Views es e0 ef (fun j => D j ∨ j = i) (fun _ => True) (e.put (dstAt es i) v) := by
  intro t _
  by_cases ht : dstAt es i = some t
  · refine ⟨fun _ => ?_, fun hno => absurd ht (hno i hi (.inr rfl))⟩
    rw [ht, put_getD_self]
    split
    · rename_i hlt
      rw [hv t ht (by omega)]
    · rename_i hlt
      rw [List.getD_eq_getElem?_getD, List.getElem?_eq_none (by omega)]; rfl
  · rw [put_getD_ne ht]
    refine ⟨?_, fun hno => (h t trivial).2 fun j hj hd => hno j hj (.inl hd)⟩
    rintro ⟨j, hj, hd, he⟩
    rcases hd with hd | rfl
    · exact (h t trivial).1 ⟨j, hj, hd, he⟩
    · exact absurd he ht

theorem inv_step {X : Ctx} (hX : ∀ f, CallOK P f (X f)) {ops : Array Oper} {es : List EOper} (hes : es = ops.toList.map (cOper P ops)) {b : List Nat} {L : Lay} (l : Laid es b L) {e0 ef : Env} {H0 Hf : Heap}
    {G : Nat → Heap} {v : Nat → V} {A : Nat → Option (Nat × Box)} (F : DrawFacts X es b L e0 ef H0 Hf G v A) {R0 : Ren} {w0 : World} {d0 : List Deferred}
    {D : Nat → Prop} {k : Nat} {a : Act} {w : World} (I : Inv es b L e0 ef H0 G A R0 w0 d0 D k R a w) {i : Nat} (hi : i < es.length) (hn : ¬ D i) (hd : ∀ j, bef b j i = true → D j)
    {Q : Exit → Act → World → Prop} {K : Act → World → Prop} (kK : ∀ a' w' k' R', Inv es b L e0 ef H0 G A R0 w0 d0 (fun j => D j ∨ j = i) k' R' a' w' → K a' w') : wpOp P ops Q i K a w := by
  have hio : i < ops.size := by rw [hes] at hi; simpa using hi
  have hoi : ops[i]? = some ops[i] := Array.getElem?_eq_getElem hio
  have hei : es.getD i default = cOper P ops ops[i] := by
    rw [hes, List.getD_eq_getElem?_getD, List.getElem?_map, Array.getElem?_toList, hoi]; rfl
  have hdst : dstAt es i = (cOper P ops ops[i]).dst := by rw [dstAt_getD hi, hei]
  obtain ⟨e, hE, hle, hV⟩ := I.env
  have hc : ∀ j, j < es.length → D j → bef b i j = false := by
    intro j _ hj
    cases hb : bef b i j with
    | false => rfl
    | true => exact absurd (I.closed j i hj hb) hn
  have fact := F.run i hi e (l.views hV hi hd hc hn)
  have hV' := views_put hi F.len hle (F.val i hi) hV
  have hlo : L.lev.getD i 0 ≤ k := by
    rcases l.lo i hi with h1 | ⟨q, h1, h2, h3, h4⟩
    · omega
    · have := (I.wr q h1 h2).1 (hd q h4); omega
  have hhi : k ≤ L.hi.getD i 0 := by
    have := I.km
    rcases l.hi i hi with h1 | ⟨q, h1, h2, h3, h4⟩
    · omega
    · rcases Nat.lt_or_ge (L.hi.getD i 0) k with h5 | h5
      · have h6 := (I.wr q h1 h2).2 (by omega)
        exact absurd (I.closed q i h6 h4) hn
      · exact h5
  have closed' : ∀ i' j, (D i' ∨ i' = i) → bef b j i' = true → (D j ∨ j = i) := by
    rintro i' j (h1 | rfl) h2
    · exact .inl (I.closed i' j h1 h2)
    · exact .inl (hd j h2)
  have wr' : isWr es i = false → ∀ q, q < es.length → isWr es q = true → ((D q ∨ q = i) ↔ L.lev.getD q 0 < k) := by
    intro hw q hq hqw
    rw [← I.wr q hq hqw]
    refine ⟨fun h => h.elim id fun h => ?_, .inl⟩
    rw [h, hw] at hqw; simp at hqw
  unfold wpOp
  rw [hoi]
  simp only
  rcases fact with ⟨hw, _, hv⟩ | ⟨hw, Hb, bx, hA, hnew, hwt, hv⟩ | ⟨hw, _, H1, hv, hpre, hna⟩
  · have h := hv k hlo hhi I.km
    rw [hei] at h
    have h' : evalOper X (cOper P ops ops[i]) e (G k) = some (e.put (cOper P ops ops[i]).dst (v i), G k) := by rw [evalOper_val, h]; rfl
    refine oper_ok hE hX h' I.rel fun a' w' R' r1 r2 r3 r4 r5 => kK a' w' k R' ?_
    have hdom : ∀ b, R'.Dom b → R.Dom b := by
      intro b hb
      rcases r5.dom b hb with h1 | h1
      · exact h1
      · have := r2.dom_lt hb; omega
    refine ⟨I.km, r2, ⟨_, r3, by rw [put_length]; exact hle, by rw [← hdst]; exact hV'⟩, I.step.trans r1, ⟨I.hst.len, fun b hb => I.hst.dom b (hdom b hb), I.hst.keep⟩, r4.trans I.dfr, wr' hw, closed', ?_, I.dis⟩
    intro j hj p hp hl
    obtain ⟨n1, n2, n3⟩ := I.news j hj p hp hl
    refine ⟨n1, n2, fun hnd => ?_⟩
    obtain ⟨n4, n5⟩ := n3 fun h => hnd (.inl h)
    exact ⟨n4, fun h => n5 (hdom _ h)⟩
  · rw [hei] at hnew hwt hv
    obtain ⟨n1, n2, n3⟩ := I.news i hi _ hA hlo
    obtain ⟨n4, n5⟩ := n3 hn
    refine oper_new hE hnew hwt hv I.rel n4 n5 fun a' w' R' r1 r2 r3 r4 r5 => kK a' w' k R' ?_
    refine ⟨I.km, r2, ⟨_, r3, by rw [put_length]; exact hle, by rw [← hdst]; exact hV'⟩, I.step.trans r1, ⟨I.hst.len, fun b hb => ?_, I.hst.keep⟩, r4.trans I.dfr, wr' hw, closed', ?_, I.dis⟩
    · rcases r5 b hb with h1 | rfl
      · exact I.hst.dom b h1
      · exact .inr n1
    · intro j hj p hp hl
      obtain ⟨m1, m2, m3⟩ := I.news j hj p hp hl
      refine ⟨m1, m2, fun hnd => ?_⟩
      obtain ⟨m4, m5⟩ := m3 fun h => hnd (.inl h)
      refine ⟨m4, fun h => ?_⟩
      rcases r5 _ h with h1 | h1
      · exact m5 h1
      · exact I.dis j i hj hi (fun he => hnd (.inr he)) p _ hp hA hl hlo h1
  · have hlev : L.lev.getD i 0 = k := by
      rcases Nat.lt_or_ge (L.lev.getD i 0) k with h1 | h1
      · exact absurd ((I.wr i hi hw).2 h1) hn
      · omega
    rw [hlev] at hv hpre hna
    rw [hei] at hv
    have h' : evalOper X (cOper P ops ops[i]) e (G k) = some (e.put (cOper P ops ops[i]).dst (v i), H1) := by rw [evalOper_val, hv]; rfl
    refine oper_ok hE hX h' I.rel fun a' w' R' r1 r2 r3 r4 r5 => kK a' w' (k + 1) R' ?_
    have l1 := r5.len
    have l2 := hpre.length_le
    have l3 := I.hst.len
    have hget : ∀ b, b < H1.length → (G (k + 1))[b]? = H1[b]? := by
      intro b hb
      obtain ⟨t, ht⟩ := hpre
      rw [← ht, List.getElem?_append_left hb]
    have hst' := I.hst.trans r5
    have hm := l.wl i hi hw
    refine ⟨by omega, r2.pre hpre, ⟨_, r3, by rw [put_length]; exact hle, by rw [← hdst]; exact hV'⟩, I.step.trans r1, ⟨by omega, hst'.dom, fun b hb hnd => ?_⟩, r4.trans I.dfr, ?_, closed', ?_, ?_⟩
    · rw [hget b (by omega)]; exact hst'.keep b hb hnd
    · intro q hq hqw
      constructor
      · rintro (h1 | rfl)
        · have := (I.wr q hq hqw).1 h1; omega
        · omega
      · intro h1
        rcases Nat.lt_or_ge (L.lev.getD q 0) k with h2 | h2
        · exact .inl ((I.wr q hq hqw).2 h2)
        · exact .inr (l.winj q i hq hi hqw hw (by omega))
    · intro j hj p hp hl
      rcases Nat.lt_or_ge k (L.lev.getD j 0) with h1 | h1
      · have hlk : L.lev.getD j 0 = k + 1 := by omega
        have h2 := hna j hj p hp hlk
        have h3 := F.at_ j hj p hp
        rw [hlk] at h3
        refine ⟨by omega, (List.getElem?_eq_some_iff.1 h3).1, fun _ => ⟨h3, fun hdm => ?_⟩⟩
        have := r2.dom_lt hdm
        omega
      · obtain ⟨m1, m2, m3⟩ := I.news j hj p hp h1
        refine ⟨m1, by omega, fun hnd => ?_⟩
        obtain ⟨m4, m5⟩ := m3 fun h => hnd (.inl h)
        refine ⟨?_, fun h => ?_⟩
        · rw [hget _ (by omega), r5.keep _ m2 m5]; exact m4
        · rcases r5.dom _ h with h2 | h2
          · exact m5 h2
          · omega
    · intro i1 j1 h1 h2 hne p p' hp hp' hl1 hl2
      rcases Nat.lt_or_ge k (L.lev.getD i1 0) with c1 | c1 <;> rcases Nat.lt_or_ge k (L.lev.getD j1 0) with c2 | c2
      · exact F.dis i1 j1 h1 h2 hne p p' hp hp' (by omega)
      · have := hna i1 h1 p hp (by omega)
        have := (I.news j1 h2 p' hp' c2).2.1
        omega
      · have := hna j1 h2 p' hp' (by omega)
        have := (I.news i1 h1 p hp c1).2.1
        omega
      · exact I.dis i1 j1 h1 h2 hne p p' hp hp' c1 c2

theorem all_done {md : Region.Mode} {ops : Array Oper} (ho : orderOk md ops = true) {listed : Array Bool} (hs : listed.size = ops.size) (hr : Region.ready md ops listed = []) : ∀ j, j < ops.size → listed.getD j false = true := by
  unfold orderOk at ho
  rw [List.all_eq_true] at ho
  have main : ∀ N j, j < ops.size → (Region.linearise md ops 0).idxOf j < N → listed.getD j false = true := by
    intro N
    induction N with
    | zero => intro j _ h; omega
    | succ N ih =>
      intro j hj hN
      cases hl : listed.getD j false with
      | true => rfl
      | false =>
        exfalso
        have hoj : ops[j]? = some ops[j] := Array.getElem?_eq_getElem hj
        have h1 := ho j (List.mem_range.2 hj)
        rw [hoj] at h1
        simp only [List.all_eq_true, Bool.or_eq_true, Bool.not_eq_true', Bool.and_eq_true, decide_eq_true_eq] at h1
        have : j ∈ Region.ready md ops listed := by
          rw [mem_ready]
          refine ⟨?_, ops[j], hoj, fun e he hb => ?_⟩
          · have hjs : j < listed.size := by omega
            simp only [Array.getD_eq_getD_getElem?, Array.getElem?_eq_getElem hjs, Option.getD_some] at hl ⊢
            exact hl
          · rcases h1 e (Array.mem_toList_iff.2 he) with h2 | ⟨h2, h3⟩
            · rw [hb] at h2; simp at h2
            · exact ih e.on h2 (by omega)
        rw [hr] at this
        cases this
  intro j hj
  exact main _ j hj (Nat.lt_succ_self _)

theorem inv_all {X : Ctx} (hX : ∀ f, CallOK P f (X f)) {ops : Array Oper} {es : List EOper} (hes : es = ops.toList.map (cOper P ops)) {L : Lay} (l : Laid es (befL ops.toList) L) {e0 ef : Env} {H0 Hf : Heap}
    {G : Nat → Heap} {v : Nat → V} {A : Nat → Option (Nat × Box)} (F : DrawFacts X es (befL ops.toList) L e0 ef H0 Hf G v A) {R0 : Ren} {w0 : World} {d0 : List Deferred} {md : Region.Mode} (ho : orderOk md ops = true)
    {Q : Exit → Act → World → Prop} (kQ : ∀ a' w' R', StepR R0 w0 R' w' → Rel R' (Hf[·]?) w' → VRL R' ef a'.tmps.toList → a'.defers = d0 → StepH R0 H0 R' Hf → Q .normal a' w') :
    ∀ (fuel : Nat) (listed : Array Bool) (k : Nat) (R : Ren) (a : Act) (w : World), listed.size = ops.size → openN ops.size listed = fuel →
      Inv es (befL ops.toList) L e0 ef H0 G A R0 w0 d0 (fun j => listed.getD j false = true) k R a w → wpAny P md ops Q fuel listed a w := by
  have hn : es.length = ops.size := by rw [hes]; simp
  have fin : ∀ (listed : Array Bool) (k : Nat) (R : Ren) (a : Act) (w : World), (∀ j, j < ops.size → listed.getD j false = true) →
      Inv es (befL ops.toList) L e0 ef H0 G A R0 w0 d0 (fun j => listed.getD j false = true) k R a w → Q .normal a w := by
    intro listed k R a w hall I
    have hk : k = L.m := by
      have := I.km
      rcases Nat.lt_or_ge k L.m with h1 | h1
      · obtain ⟨q, h2, h3, h4⟩ := l.ex k h1
        have := (I.wr q h2 h3).1 (hall q (by omega))
        omega
      · omega
    subst hk
    obtain ⟨e, hE, hle, hV⟩ := I.env
    have hrel := I.rel
    have hst := I.hst
    rw [F.fin] at hrel hst
    have hee : e = ef := by
      refine List.ext_getElem (by rw [hle, F.len]) fun t h1 h2 => ?_
      have hg : e.getD t V.undef = ef.getD t V.undef := by
        by_cases hj : ∃ j, j < es.length ∧ dstAt es j = some t
        · obtain ⟨j, h3, h4⟩ := hj
          exact (hV t trivial).1 ⟨j, h3, hall j (by omega), h4⟩
        · have hno : ∀ j, j < es.length → dstAt es j ≠ some t := fun j h3 h4 => hj ⟨j, h3, h4⟩
          rw [(hV t trivial).2 fun j h3 _ => hno j h3, F.rest t hno]
      simpa [List.getD_eq_getElem?_getD, List.getElem?_eq_getElem h1, List.getElem?_eq_getElem h2] using hg
    subst hee
    exact kQ a w R I.step hrel hE I.dfr hst
  intro fuel
  induction fuel with
  | zero =>
    intro listed k R a w hs hf I
    have hall := openN_zero hf
    refine ⟨?_, fin listed k R a w hall I⟩
    cases hr : Region.ready md ops listed with
    | nil => rfl
    | cons j rs =>
      exfalso
      have : j ∈ Region.ready md ops listed := by rw [hr]; exact List.mem_cons_self
      rw [mem_ready] at this
      obtain ⟨h1, o, h2, _⟩ := this
      have hj := (Array.getElem?_eq_some_iff.1 h2).1
      have h3 := hall j hj
      have hjs : j < listed.size := by omega
      simp only [Array.getD_eq_getD_getElem?, Array.getElem?_eq_getElem hjs, Option.getD_some] at h1 h3
      rw [h1] at h3; simp at h3
  | succ fuel ih =>
    intro listed k R a w hs hf I
    refine ⟨fun hr => fin listed k R a w (all_done ho hs hr) I, fun i hir => ?_⟩
    rw [mem_ready] at hir
    obtain ⟨h1, o, h2, h3⟩ := hir
    have hi := (Array.getElem?_eq_some_iff.1 h2).1
    have his : i < listed.size := by omega
    have hnD : ¬ (listed.getD i false = true) := by
      simp only [Array.getD_eq_getD_getElem?, Array.getElem?_eq_getElem his, Option.getD_some] at h1 ⊢
      rw [h1]; simp
    refine inv_step hX hes l F I (by omega) hnD (fun j hj => ?_) fun a' w' k' R' I' => ih _ k' R' a' w' (by simp [hs]) (by have := openN_set hs hi h1; omega) ?_
    · obtain ⟨o', h4, e, h5, h6, h7⟩ := bef_test hj
      rw [Array.getElem?_toList, h2] at h4
      simp only [Option.some.injEq] at h4
      subst h4
      have hon := h3 e (Array.mem_toList_iff.1 h5) (hard_binds h6 md)
      rcases h7 with rfl | h7
      · exact hon
      · exact I.closed e.on j hon h7
    · have : (fun j => (listed.setIfInBounds i true).getD j false = true) = fun j => listed.getD j false = true ∨ j = i := by
        funext j
        by_cases hj : i = j
        · subst hj
          simp [Array.getD_eq_getD_getElem?, his]
        · rw [getD_set_ne false hj]
          simp [Ne.symm hj]
      rw [this]
      exact I'

theorem draw_ok (hm : P.follows .mixedOrders = true) {X : Ctx} (hX : ∀ f, CallOK P f (X f)) : DrawOK P X := by
  intro id ops e e' H H' ex h R a w hE hrel Q k
  have h : evalCode X 0 (cRegion P ops true) e H = some (ex, e', H') := h
  unfold cRegion at h
  simp only [Bool.not_true, Bool.false_eq_true, if_false] at h
  split at h
  · rename_i hok
    simp only [evalCode] at h
    split at h
    · rename_i e1 H1 sn pd hev
      split at h
      · rename_i hdr
        simp only [Option.some.injEq, Prod.mk.injEq] at h
        obtain ⟨rfl, rfl, rfl⟩ := h
        simp only [drawOkP, Bool.and_eq_true, beq_iff_eq, decide_eq_true_eq, Bool.not_eq_true'] at hok
        obtain ⟨⟨⟨⟨o1, o2⟩, o3⟩, o4⟩, o5⟩ := hok
        have l := laid_of o1 o2 o3 o4
        obtain ⟨G, v, A, F⟩ := draw_facts l hev hdr
        have main : ∀ md, orderOk md ops = true → wpAny P md ops Q ops.size (Array.replicate ops.size false) a { w with drawn := w.drawn + 1 } := by
          intro md ho
          refine inv_all hX rfl l F (R0 := R) (w0 := w) (d0 := a.defers) ho (fun a' w' R' r1 r2 r3 r4 r5 => k a' w' R' r1 r2 r3 r4 r5) ops.size _ 0 R a _ (by simp) ?_ ?_
          · unfold openN
            rw [List.countP_eq_length.2, List.length_range]
            intro j hj
            have := List.mem_range.1 hj
            simp [Array.getD_eq_getD_getElem?, this]
          · have hno : ∀ j, ¬ ((Array.replicate ops.size false).getD j false = true) := by
              intro j
              by_cases hj : j < ops.size <;> simp [Array.getD_eq_getD_getElem?, hj]
            have hlen := F.start.length_le
            refine ⟨Nat.zero_le _, (hrel.pre F.start).drew _, ⟨e, hE, rfl, fun t _ => ⟨fun ⟨j, _, h2, _⟩ => absurd h2 (hno j), fun _ => rfl⟩⟩, StepR.drew R w _, ⟨hlen, fun _ h => .inl h, fun b hb _ => ?_⟩, rfl,
              fun q _ _ => ⟨fun h => absurd h (hno q), fun h => by omega⟩, fun i j h => absurd h (hno i), fun i hi p hp hl => ?_, fun i j hi hj hne p p' hp hp' h1 h2 => F.dis i j hi hj hne p p' hp hp' (by omega)⟩
            · obtain ⟨t, ht⟩ := F.start
              rw [← ht, List.getElem?_append_left hb]
            · have hl0 : (layOf (ops.toList.map (cOper P ops)) (befL ops.toList)).lev.getD i 0 = 0 := by omega
              have h1 := F.new0 i hi p hp hl0
              have h2 := F.at_ i hi p hp
              rw [hl0] at h2
              refine ⟨h1, (List.getElem?_eq_some_iff.1 h2).1, fun _ => ⟨h2, fun hd => ?_⟩⟩
              have := hrel.dom_lt hd
              omega
        exact wp_region_any hm (main .any o5)
      · simp at h
    · simp at h
  · simp [evalCode] at h

end
end Go.PE
