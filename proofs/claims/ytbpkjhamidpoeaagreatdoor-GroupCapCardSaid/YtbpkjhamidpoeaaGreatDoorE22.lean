/- What is known of a region that draws its order, in a form that no order of its operations turns. Nothing of a program stands here. -/
import Derived.Test.YtbpkjhamidpoeaaGreatDoorE21
namespace Go.PE

structure Laid (es : List EOper) (b : List Nat) (L : Lay) : Prop where
  bl : ∀ i, i < es.length → ∀ j, bef b j i = true → j < i
  oc : ∀ i, i < es.length → i ∈ L.ord
  on : ∀ q, q < es.length → L.ord.idxOf (L.ord.getD q 0) = q
  ol : ∀ q, q < es.length → L.ord.getD q 0 < es.length
  olen : L.ord.length = es.length
  lo : ∀ i, i < es.length → L.lev.getD i 0 = 0 ∨ ∃ q, q < es.length ∧ isWr es q = true ∧ L.lev.getD q 0 + 1 = L.lev.getD i 0 ∧ bef b q i = true
  hi : ∀ i, i < es.length → L.hi.getD i 0 = L.m ∨ ∃ q, q < es.length ∧ isWr es q = true ∧ L.lev.getD q 0 = L.hi.getD i 0 ∧ bef b i q = true
  cnt : ∀ i, i < es.length → (L.ord.take (L.ord.idxOf i)).countP (isWr es) = L.lev.getD i 0
  wl : ∀ i, i < es.length → isWr es i = true → L.lev.getD i 0 < L.m
  ex : ∀ k, k < L.m → ∃ q, q < es.length ∧ isWr es q = true ∧ L.lev.getD q 0 = k
  cm : L.ord.countP (isWr es) = L.m
  slots : ∀ i j, i < es.length → j < es.length → i ≠ j → ∀ t, dstAt es i = some t → dstAt es j ≠ some t
  look : ∀ i j, i < es.length → j < es.length → ∀ t, dstAt es i = some t → t ∈ tmsAt es j → i = j ∨ bef b i j = true ∨ bef b j i = true
  fwd : ∀ i j, i < es.length → j < es.length → bef b i j = true → L.ord.idxOf i < L.ord.idxOf j
  winj : ∀ i j, i < es.length → j < es.length → isWr es i = true → isWr es j = true → L.lev.getD i 0 = L.lev.getD j 0 → i = j

theorem mem_wrs {es : List EOper} {q : Nat} : q ∈ wrs es ↔ q < es.length ∧ isWr es q = true := by
  simp [wrs]

theorem laid_of {es : List EOper} {b : List Nat} {L : Lay} (h : ((List.range es.length).all fun j => oneOk es b L j) = true) (hl : L.ord.length = es.length) (hm : L.m ≤ es.length)
    (hc : L.ord.countP (isWr es) = L.m) : Laid es b L := by
  rw [List.all_eq_true] at h
  have one : ∀ i, i < es.length → oneOk es b L i = true := fun i hi => h i (List.mem_range.2 hi)
  simp only [oneOk, Bool.and_eq_true, decide_eq_true_eq, Bool.or_eq_true, beq_iff_eq, List.any_eq_true, List.all_eq_true, List.mem_range, Bool.not_eq_true', List.contains_iff_mem, mem_wrs] at one
  have pair : ∀ i j, i < es.length → j < es.length → pairOk es b L i j = true := fun i j hi hj => (one i hi).2 j hj
  simp only [pairOk, Bool.and_eq_true, Bool.or_eq_true, beq_iff_eq, bne_iff_ne, ne_eq, decide_eq_true_eq, Bool.not_eq_true', Option.isNone_iff_eq_none] at pair
  refine ⟨?_, ?_, ?_, ?_, hl, ?_, ?_, ?_, ?_, ?_, hc, ?_, ?_, ?_, ?_⟩
  · intro i hi j hj
    have h1 := (one i hi).1.1.1.1.1.1.1.1.1
    rcases Nat.lt_or_ge j i with h2 | h2
    · exact h2
    · have : b.getD i 0 < 2 ^ j := Nat.lt_of_lt_of_le h1 (Nat.pow_le_pow_right (by omega) h2)
      rw [bef, Nat.testBit_lt_two_pow this] at hj
      simp at hj
  · intro i hi; exact (one i hi).1.1.1.1.1.1.1.1.2
  · intro i hi; exact (one i hi).1.1.1.1.1.1.1.2
  · intro i hi; exact (one i hi).1.1.1.1.1.1.2
  · intro i hi
    rcases (one i hi).1.1.1.1.1.2 with h1 | ⟨q, ⟨h1, h2⟩, h3, h4⟩
    · exact .inl h1
    · exact .inr ⟨q, h1, h2, h3, h4⟩
  · intro i hi
    rcases (one i hi).1.1.1.1.2 with h1 | ⟨q, ⟨h1, h2⟩, h3, h4⟩
    · exact .inl h1
    · exact .inr ⟨q, h1, h2, h3, h4⟩
  · intro i hi; exact (one i hi).1.1.1.2
  · intro i hi hw
    rcases (one i hi).1.1.2 with h1 | h1
    · rw [hw] at h1; simp at h1
    · exact h1
  · intro k hk
    rcases (one k (by omega)).1.2 with h1 | ⟨q, ⟨h1, h2⟩, h3⟩
    · omega
    · exact ⟨q, h1, h2, h3⟩
  · intro i j hi hj hne t ht ht'
    rcases (pair i j hi hj).1.1.1 with (h1 | h1) | h1
    · exact hne h1
    · rw [ht] at h1; simp at h1
    · rw [ht, ht'] at h1; simp at h1
  · intro i j hi hj t ht hmem
    have h1 := (pair i j hi hj).1.1.2
    rw [ht] at h1
    simp only [Bool.or_eq_true, Bool.not_eq_true', beq_iff_eq] at h1
    rcases h1 with ((h1 | h1) | h1) | h1
    · rw [← Bool.not_eq_true, List.contains_iff_mem] at h1; exact absurd hmem h1
    · exact .inl h1
    · exact .inr (.inl h1)
    · exact .inr (.inr h1)
  · intro i j hi hj hb
    rcases (pair i j hi hj).1.2 with h1 | h1
    · rw [hb] at h1; simp at h1
    · exact h1
  · intro i j hi hj h1 h2 h3
    rcases (pair i j hi hj).2 with ((h4 | h4) | h4) | h4
    · exact h4
    · rw [h1] at h4; simp at h4
    · rw [h2] at h4; simp at h4
    · exact absurd h3 h4

/-- An environment that shows, at the slots of S, what those of D have written, and else what was there. -/
def Views (es : List EOper) (e0 ef : Env) (D : Nat → Prop) (S : Nat → Prop) (e : Env) : Prop :=
  ∀ t, S t → ((∃ j, j < es.length ∧ D j ∧ dstAt es j = some t) → e.getD t V.undef = ef.getD t V.undef) ∧ ((∀ j, j < es.length → D j → dstAt es j ≠ some t) → e.getD t V.undef = e0.getD t V.undef)

theorem Views.same {es : List EOper} {e0 ef e e' : Env} {D S : Nat → Prop} (h : Views es e0 ef D S e) (h' : Views es e0 ef D S e') {t : Nat} (ht : S t) : e.getD t V.undef = e'.getD t V.undef := by
  by_cases hj : ∃ j, j < es.length ∧ D j ∧ dstAt es j = some t
  · rw [(h t ht).1 hj, (h' t ht).1 hj]
  · have : ∀ j, j < es.length → D j → dstAt es j ≠ some t := fun j hl hd he => hj ⟨j, hl, hd, he⟩
    rw [(h t ht).2 this, (h' t ht).2 this]

/-- What those have written that are done is, at the slots that an operation looks at, what those have written that are surely ahead of it. -/
theorem Laid.views {es : List EOper} {b : List Nat} {L : Lay} (l : Laid es b L) {e0 ef e : Env} {D : Nat → Prop} (h : Views es e0 ef D (fun _ => True) e) {i : Nat} (hi : i < es.length)
    (hd : ∀ j, bef b j i = true → D j) (hc : ∀ j, j < es.length → D j → bef b i j = false) (hn : ¬ D i) : Views es e0 ef (fun j => bef b j i = true) (fun t => t ∈ tmsAt es i) e := by
  intro t ht
  refine ⟨fun ⟨j, hj, hb, he⟩ => (h t trivial).1 ⟨j, hj, hd j hb, he⟩, fun hno => (h t trivial).2 fun j hj hdj he => ?_⟩
  rcases l.look j i hj hi t he ht with rfl | hb | hb
  · exact hn hdj
  · exact hno j hj hb he
  · rw [hc j hj hdj] at hb; simp at hb

section
variable {X : Ctx}

/-- What an operation does, wherever in an order it comes. -/
def OpFact (X : Ctx) (es : List EOper) (L : Lay) (G : Nat → Heap) (v : Nat → V) (A : Nat → Option (Nat × Box)) (i : Nat) (e : Env) : Prop :=
  (isWr es i = false ∧ A i = none ∧ ∀ k, L.lev.getD i 0 ≤ k → k ≤ L.hi.getD i 0 → k ≤ L.m → valOper X (es.getD i default) e (G k) = some (v i, G k)) ∨
  (isWr es i = false ∧ ∃ Hb bx, A i = some (Hb.length, bx) ∧ (es.getD i default).op.isNew = true ∧ (es.getD i default).wanted e = true ∧ evalOp X e Hb (es.getD i default).op = some (v i, Hb ++ [bx])) ∨
  (isWr es i = true ∧ A i = none ∧ ∃ H1, valOper X (es.getD i default) e (G (L.lev.getD i 0)) = some (v i, H1) ∧ H1 <+: G (L.lev.getD i 0 + 1) ∧
    ∀ j, j < es.length → ∀ p, A j = some p → L.lev.getD j 0 = L.lev.getD i 0 + 1 → H1.length ≤ p.1)

structure DrawFacts (X : Ctx) (es : List EOper) (b : List Nat) (L : Lay) (e0 ef : Env) (H0 Hf : Heap) (G : Nat → Heap) (v : Nat → V) (A : Nat → Option (Nat × Box)) : Prop where
  len : ef.length = e0.length
  rest : ∀ t, (∀ i, i < es.length → dstAt es i ≠ some t) → ef.getD t V.undef = e0.getD t V.undef
  val : ∀ i, i < es.length → ∀ t, dstAt es i = some t → t < e0.length → ef.getD t V.undef = v i
  start : H0 <+: G 0
  fin : G L.m = Hf
  run : ∀ i, i < es.length → ∀ e, Views es e0 ef (fun j => bef b j i = true) (fun t => t ∈ tmsAt es i) e → OpFact X es L G v A i e
  new0 : ∀ j, j < es.length → ∀ p, A j = some p → L.lev.getD j 0 = 0 → H0.length ≤ p.1
  at_ : ∀ j, j < es.length → ∀ p, A j = some p → (G (L.lev.getD j 0))[p.1]? = some p.2
  dis : ∀ i j, i < es.length → j < es.length → i ≠ j → ∀ p p', A i = some p → A j = some p' → L.lev.getD i 0 = L.lev.getD j 0 → p.1 ≠ p'.1

theorem writes_eq (op : EOp) : writes op = op.isWr := by cases op <;> rfl
theorem reads_eq (op : EOp) : readsMem op = op.isRd := by cases op <;> rfl

theorem kindAt_isW (es : List EOper) (L : Lay) (i : Nat) : (kindAt es L i).isW = isWr es i := by
  unfold kindAt isWr
  cases es[i]? with
  | none => rfl
  | some o =>
    simp only
    split
    · rename_i h; rw [h]; rfl
    · rename_i h
      simp only [Bool.not_eq_true] at h
      rw [h]
      split <;> rfl

theorem isWr_getD {es : List EOper} {i : Nat} (h : i < es.length) : isWr es i = (es.getD i default).op.isWr := by
  simp [isWr, List.getElem?_eq_getElem h, writes_eq]

theorem dstAt_getD {es : List EOper} {i : Nat} (h : i < es.length) : dstAt es i = (es.getD i default).dst := by
  simp [dstAt, List.getElem?_eq_getElem h]

theorem tmsAt_getD {es : List EOper} {i : Nat} (h : i < es.length) : tmsAt es i = (es.getD i default).tms := by
  simp [tmsAt, List.getElem?_eq_getElem h]

theorem getElem?_cDraw {es : List EOper} {b : List Nat} {L : Lay} (l : Laid es b L) {q : Nat} (h : q < es.length) :
    (cDraw es L)[q]? = some (es.getD (L.ord.getD q 0) default, kindAt es L (L.ord.getD q 0)) := by
  have : q < L.ord.length := by rw [l.olen]; exact h
  simp [cDraw, List.getElem?_map, List.getElem?_eq_getElem this]

theorem cntW_cDraw (es : List EOper) (L : Lay) (q : Nat) : cntW (cDraw es L) q = (L.ord.take q).countP (isWr es) := by
  unfold cntW cDraw
  rw [← List.map_take, List.countP_map]
  congr 1
  funext i
  exact kindAt_isW es L i

theorem put_length (e : Env) (d : Option Nat) (v : V) : (e.put d v).length = e.length := by
  cases d <;> simp [Env.put]

theorem put_getD_ne {e : Env} {d : Option Nat} {v : V} {t : Nat} (h : d ≠ some t) : (e.put d v).getD t V.undef = e.getD t V.undef := by
  cases d with
  | none => rfl
  | some d =>
    have : d ≠ t := fun e => h (by rw [e])
    simp [Env.put, List.getElem?_set_ne this]

theorem put_getD_self {e : Env} {v : V} {t : Nat} : (e.put (some t) v).getD t V.undef = if t < e.length then v else V.undef := by
  simp only [Env.put, List.getD_eq_getElem?_getD]
  by_cases h : t < e.length
  · rw [List.getElem?_set_self h, if_pos h]; rfl
  · rw [if_neg h, List.getElem?_eq_none (by simp; omega)]; rfl

theorem draw_facts {es : List EOper} {b : List Nat} {L : Lay} (l : Laid es b L) {e0 ef : Env} {H0 Hf : Heap} {sn : List Heap} {pd : List (Env × EOp × V × Nat × Nat)}
    (h : evalDraw X (cDraw es L) e0 H0 [] [] = some (ef, Hf, sn, pd)) (hp : drawOk X sn pd = true) : ∃ G v A, DrawFacts X es b L e0 ef H0 Hf G v A := by
  obtain ⟨_, _, Es, Hs, vs, r1, r2, r3, r4, r5, r6⟩ := evalDraw_run _ _ _ _ _ _ _ _ _ h
  have hlen : (cDraw es L).length = es.length := by simp [cDraw, l.olen]
  rw [hlen] at r3 r4 r5
  simp only [List.length_nil, Nat.zero_add] at r5 r6
  -- the operation at a place
  have place : ∀ i, i < es.length → L.ord.idxOf i < es.length ∧ L.ord.getD (L.ord.idxOf i) 0 = i := by
    intro i hi
    have h1 : L.ord.idxOf i < L.ord.length := List.idxOf_lt_length_of_mem (l.oc i hi)
    refine ⟨by rw [← l.olen]; exact h1, ?_⟩
    rw [List.getD_eq_getElem?_getD, List.getElem?_eq_getElem h1, List.getElem_idxOf h1]; rfl
  have step : ∀ q, q < es.length → _ := fun q hq => r6 q _ _ (getElem?_cDraw l hq)
  have cnt : ∀ q, cntW (cDraw es L) q = (L.ord.take q).countP (isWr es) := cntW_cDraw es L
  have cntS : ∀ q, q < es.length → cntW (cDraw es L) (q + 1) = cntW (cDraw es L) q + (if isWr es (L.ord.getD q 0) then 1 else 0) := by
    intro q hq
    rw [cntW_succ (getElem?_cDraw l hq)]
    simp only [kindAt_isW]
  have cntM : ∀ q q', q ≤ q' → cntW (cDraw es L) q ≤ cntW (cDraw es L) q' := by
    intro q q' hqq
    rw [cnt, cnt]
    have : L.ord.take q <+: L.ord.take q' := by
      rw [List.prefix_take_iff]
      exact ⟨List.take_prefix _ _, by simp; omega⟩
    exact this.sublist.countP_le
  have cntI : ∀ i, i < es.length → cntW (cDraw es L) (L.ord.idxOf i) = L.lev.getD i 0 := fun i hi => by rw [cnt, l.cnt i hi]
  have cntE : cntW (cDraw es L) es.length = L.m := by
    rw [cnt, List.take_of_length_le (by rw [l.olen]; exact Nat.le_refl _), l.cm]
  -- heaps
  have grow : ∀ q, q < es.length → isWr es (L.ord.getD q 0) = false → Hs (q + 1) = Hs q ∨ ∃ bx, Hs (q + 1) = Hs q ++ [bx] := by
    intro q hq hw
    have := (step q hq).1
    rw [isWr_getD (l.ol q hq)] at hw
    exact valOper_grows hw this
  have chain : ∀ d q, q + d ≤ es.length → cntW (cDraw es L) q = cntW (cDraw es L) (q + d) → Hs q <+: Hs (q + d) := by
    intro d
    induction d with
    | zero => intro q _ _; exact List.prefix_refl _
    | succ d ih =>
      intro q hq hc
      have h1 := cntM q (q + d) (by omega)
      have h2 := cntS (q + d) (by omega)
      rw [Nat.add_assoc] at h2
      have hw : isWr es (L.ord.getD (q + d) 0) = false := by
        cases hw : isWr es (L.ord.getD (q + d) 0) with
        | false => rfl
        | true => rw [hw, if_pos rfl] at h2; omega
      rw [hw] at h2
      simp only [Bool.false_eq_true, if_false, Nat.add_zero] at h2
      refine (ih q (by omega) (by omega)).trans ?_
      rcases grow (q + d) (by omega) hw with h3 | ⟨bx, h3⟩
      · rw [← Nat.add_assoc, h3]; exact List.prefix_refl _
      · rw [← Nat.add_assoc, h3]; exact List.prefix_append _ _
  have chain' : ∀ q q', q ≤ q' → q' ≤ es.length → cntW (cDraw es L) q = cntW (cDraw es L) q' → Hs q <+: Hs q' := by
    intro q q' h1 h2 h3
    obtain ⟨d, rfl⟩ := Nat.le.dest h1
    exact chain d q h2 h3
  have snap : ∀ d q, q + d = es.length → ∃ g, sn[cntW (cDraw es L) q]? = some g ∧ Hs q <+: g := by
    intro d
    induction d with
    | zero =>
      intro q hq
      have hq : q = es.length := by omega
      subst hq
      exact ⟨Hf, r5, by rw [r4]; exact List.prefix_refl _⟩
    | succ d ih =>
      intro q hq
      cases hw : isWr es (L.ord.getD q 0) with
      | true => exact ⟨Hs q, (step q (by omega)).2.2.1 (by rw [kindAt_isW]; exact hw), List.prefix_refl _⟩
      | false =>
        obtain ⟨g, h1, h2⟩ := ih (q + 1) (by omega)
        have h3 := cntS q (by omega)
        rw [hw] at h3
        simp only [Bool.false_eq_true, if_false, Nat.add_zero] at h3
        rw [h3] at h1
        refine ⟨g, h1, List.IsPrefix.trans ?_ h2⟩
        rcases grow q (by omega) hw with h3 | ⟨bx, h3⟩
        · rw [h3]; exact List.prefix_refl _
        · rw [h3]; exact List.prefix_append _ _
  have snapG : ∀ q, q ≤ es.length → Hs q <+: sn.getD (cntW (cDraw es L) q) [] := by
    intro q hq
    obtain ⟨g, h1, h2⟩ := snap (es.length - q) q (by omega)
    rw [List.getD_eq_getElem?_getD, h1]; exact h2
  have snapL : ∀ k, k ≤ L.m → sn[k]? = some (sn.getD k []) := by
    intro k hk
    have : k < sn.length := by
      have := (List.getElem?_eq_some_iff.1 r5).1
      rw [cntE] at this; omega
    rw [List.getD_eq_getElem?_getD, List.getElem?_eq_getElem this]; rfl
  -- environments
  have elen : ∀ q, q ≤ es.length → (Es q).length = e0.length := by
    intro q
    induction q with
    | zero => intro _; rw [r1]
    | succ q ih => intro hq; rw [(step q (by omega)).2.1, put_length, ih (by omega)]
  have ekeep : ∀ d q, q + d ≤ es.length → ∀ t, (∀ r, q ≤ r → r < q + d → dstAt es (L.ord.getD r 0) ≠ some t) → (Es (q + d)).getD t V.undef = (Es q).getD t V.undef := by
    intro d
    induction d with
    | zero => intro q _ t _; rfl
    | succ d ih =>
      intro q hq t hno
      have h1 := hno (q + d) (by omega) (by omega)
      rw [dstAt_getD (l.ol _ (by omega))] at h1
      rw [← Nat.add_assoc, (step (q + d) (by omega)).2.1, put_getD_ne h1]
      exact ih q (by omega) t fun r h2 h3 => hno r h2 (by omega)
  have views : ∀ q, q ≤ es.length → Views es e0 ef (fun j => L.ord.idxOf j < q) (fun _ => True) (Es q) := by
    intro q hq t _
    constructor
    · rintro ⟨j, hj, hjq, hd⟩
      obtain ⟨p1, p2⟩ := place j hj
      have other : ∀ r, L.ord.idxOf j + 1 ≤ r → r < es.length → dstAt es (L.ord.getD r 0) ≠ some t := by
        intro r h1 h2
        have hne : j ≠ L.ord.getD r 0 := by
          intro he
          have := l.on r h2
          rw [← he] at this
          omega
        exact l.slots j _ hj (l.ol r h2) hne t hd
      have h1 := ekeep (q - (L.ord.idxOf j + 1)) (L.ord.idxOf j + 1) (by omega) t fun r h2 h3 => other r h2 (by omega)
      have h2 := ekeep (es.length - (L.ord.idxOf j + 1)) (L.ord.idxOf j + 1) (by omega) t fun r h2 h3 => other r h2 (by omega)
      rw [show L.ord.idxOf j + 1 + (q - (L.ord.idxOf j + 1)) = q by omega] at h1
      rw [show L.ord.idxOf j + 1 + (es.length - (L.ord.idxOf j + 1)) = es.length by omega, r3] at h2
      rw [h1, h2]
    · intro hno
      have := ekeep q 0 (by omega) t fun r _ h2 => by
        have h3 := l.on r (by omega)
        exact hno _ (l.ol r (by omega)) (by show L.ord.idxOf (L.ord.getD r 0) < q; rw [h3]; omega)
      rw [Nat.zero_add, r1] at this
      exact this
  let v : Nat → V := fun i => vs (L.ord.idxOf i)
  let A : Nat → Option (Nat × Box) := fun i => if isWr es i then none else ((Hs (L.ord.idxOf i + 1))[(Hs (L.ord.idxOf i)).length]?).map fun bx => ((Hs (L.ord.idxOf i)).length, bx)
  have stepI : ∀ i, i < es.length → valOper X (es.getD i default) (Es (L.ord.idxOf i)) (Hs (L.ord.idxOf i)) = some (v i, Hs (L.ord.idxOf i + 1)) ∧
      Es (L.ord.idxOf i + 1) = (Es (L.ord.idxOf i)).put (dstAt es i) (v i) ∧
      (isWr es i = true → sn[L.lev.getD i 0]? = some (Hs (L.ord.idxOf i))) ∧
      (∀ lo hi, kindAt es L i = .R lo hi → lo ≠ hi → (es.getD i default).wanted (Es (L.ord.idxOf i)) = true → (Es (L.ord.idxOf i), (es.getD i default).op, v i, lo, hi) ∈ pd) := by
    intro i hi
    obtain ⟨p1, p2⟩ := place i hi
    have := step _ p1
    rw [p2] at this
    rw [kindAt_isW, cntI i hi] at this
    rw [dstAt_getD hi]
    exact this
  have Anew : ∀ i, i < es.length → ∀ p, A i = some p → isWr es i = false ∧ p.1 = (Hs (L.ord.idxOf i)).length ∧ Hs (L.ord.idxOf i + 1) = Hs (L.ord.idxOf i) ++ [p.2] := by
    intro i hi p hA
    simp only [A] at hA
    split at hA
    · simp at hA
    · rename_i hw
      simp only [Bool.not_eq_true] at hw
      rw [Option.map_eq_some_iff] at hA
      obtain ⟨bx, h1, rfl⟩ := hA
      obtain ⟨p1, p2⟩ := place i hi
      rcases grow _ p1 (by rw [p2]; exact hw) with h3 | ⟨bx', h3⟩
      · rw [h3, List.getElem?_eq_none (Nat.le_refl _)] at h1; simp at h1
      · refine ⟨hw, rfl, ?_⟩
        rw [h3] at h1 ⊢
        simp at h1
        rw [h1]
  have cntN : ∀ i, i < es.length → cntW (cDraw es L) (L.ord.idxOf i + 1) = L.lev.getD i 0 + (if isWr es i then 1 else 0) := by
    intro i hi
    obtain ⟨p1, p2⟩ := place i hi
    rw [cntS _ p1, p2, cntI i hi]
  refine ⟨fun k => sn.getD k [], v, A, ⟨?_, ?_, ?_, ?_, ?_, ?_, ?_, ?_, ?_⟩⟩
  · rw [← r3]; exact elen _ (Nat.le_refl _)
  · intro t hno
    have := (views es.length (Nat.le_refl _) t trivial).2 fun j hj _ => hno j hj
    rw [r3] at this; exact this
  · intro i hi t ht htl
    obtain ⟨p1, p2⟩ := place i hi
    have h1 := (views (L.ord.idxOf i + 1) (by omega) t trivial).1 ⟨i, hi, by omega, ht⟩
    rw [← h1, (stepI i hi).2.1, ht, put_getD_self, if_pos (by rw [elen _ (by omega)]; exact htl)]
  · have := snapG 0 (Nat.zero_le _)
    rw [r2, cntW_zero] at this; exact this
  · show sn.getD L.m [] = Hf
    rw [cntE] at r5
    rw [List.getD_eq_getElem?_getD, r5]; rfl
  · intro i hi e he
    obtain ⟨p1, p2⟩ := place i hi
    obtain ⟨s1, s2, s3, s4⟩ := stepI i hi
    have hv : Views es e0 ef (fun j => bef b j i = true) (fun t => t ∈ tmsAt es i) (Es (L.ord.idxOf i)) := by
      refine l.views (views _ (by omega)) hi (fun j hj => l.fwd j i (by have := l.bl i hi j hj; omega) hi hj) (fun j hj hd => ?_) (by omega)
      cases hb : bef b i j with
      | false => rfl
      | true => have := l.fwd i j hi hj hb; omega
    have heq : ∀ t ∈ (es.getD i default).tms, e.getD t V.undef = (Es (L.ord.idxOf i)).getD t V.undef := by
      intro t ht
      rw [← tmsAt_getD hi] at ht
      exact he.same hv ht
    have val : ∀ H, valOper X (es.getD i default) e H = valOper X (es.getD i default) (Es (L.ord.idxOf i)) H := fun H => valOper_congr heq
    cases hw : isWr es i with
    | true =>
      refine .inr (.inr ⟨hw, by simp [A, hw], Hs (L.ord.idxOf i + 1), ?_, ?_, ?_⟩)
      · rw [val]
        show valOper X _ _ (sn.getD (L.lev.getD i 0) []) = _
        have hsn : sn.getD (L.lev.getD i 0) [] = Hs (L.ord.idxOf i) := by rw [List.getD_eq_getElem?_getD (l := sn), s3 hw]; rfl
        rw [hsn]; exact s1
      · have := snapG (L.ord.idxOf i + 1) (by omega)
        rw [cntN i hi, hw, if_pos rfl] at this; exact this
      · intro j hj p hA hlev
        obtain ⟨a1, a2, a3⟩ := Anew j hj p hA
        obtain ⟨q1, q2⟩ := place j hj
        have c1 := cntI j hj
        have c2 := cntN i hi
        rw [hw, if_pos rfl] at c2
        have hle : L.ord.idxOf i + 1 ≤ L.ord.idxOf j := by
          rcases Nat.lt_or_ge (L.ord.idxOf i) (L.ord.idxOf j) with h1 | h1
          · exact h1
          · have := cntM (L.ord.idxOf j) (L.ord.idxOf i) h1
            rw [cntI i hi] at this; omega
        rw [a2]
        exact (chain' _ _ hle (by omega) (by omega)).length_le
    | false =>
      cases hwt : (es.getD i default).wanted (Es (L.ord.idxOf i)) with
      | false =>
        have s1' := s1
        rw [valOper, if_neg (by rw [hwt]; simp)] at s1'
        simp only [Option.some.injEq, Prod.mk.injEq] at s1'
        refine .inl ⟨hw, by simp [A, hw, ← s1'.2], fun k _ _ _ => ?_⟩
        rw [val, valOper, if_neg (by rw [hwt]; simp), ← s1'.1]
      | true =>
        have s1' := s1
        rw [valOper, if_pos hwt] at s1'
        cases hr : (es.getD i default).op.isRd with
        | true =>
          have rd := evalOp_reads s1' hr
          refine .inl ⟨hw, by simp [A, hw, rd.1], fun k k1 k2 k3 => ?_⟩
          rw [val, valOper, if_pos hwt]
          have hk : kindAt es L i = .R (L.lev.getD i 0) (L.hi.getD i 0) := by
            unfold kindAt
            rw [List.getElem?_eq_getElem hi]
            have e1 : es.getD i default = es[i] := by simp [List.getElem?_eq_getElem hi]
            rw [isWr_getD hi, e1, ← writes_eq] at hw
            rw [e1, ← reads_eq] at hr
            simp [hw, hr]
          by_cases hne : L.lev.getD i 0 = L.hi.getD i 0
          · have : k = L.lev.getD i 0 := by omega
            subst this
            refine rd.2 _ ?_
            have := snapG (L.ord.idxOf i) (by omega)
            rw [cntI i hi] at this; exact this
          · have hm := s4 _ _ hk hne hwt
            unfold drawOk at hp
            rw [List.all_eq_true] at hp
            exact sameRead_at (hp _ hm) k1 k2 (snapL k k3) hr
        | false =>
          cases hnw : (es.getD i default).op.isNew with
          | true =>
            rcases evalOp_new s1' hnw with ⟨n1, n2⟩ | ⟨bx, n1⟩
            · refine .inl ⟨hw, by simp [A, hw, n1], fun k _ _ _ => ?_⟩
              rw [val, valOper, if_pos hwt]; exact n2 _
            · refine .inr (.inl ⟨hw, Hs (L.ord.idxOf i), bx, by simp [A, hw, n1], hnw, by rw [wanted_congr heq]; exact hwt, ?_⟩)
              rw [← n1, ← s1']
              exact evalOp_congr fun t ht => heq t (by unfold EOper.tms; exact List.mem_append_left _ ht)
          | false =>
            have hw' := hw
            rw [isWr_getD hi] at hw'
            have pl := evalOp_plain s1' hw' hr hnw
            refine .inl ⟨hw, by simp [A, hw, pl.1], fun k _ _ _ => ?_⟩
            rw [val, valOper, if_pos hwt]; exact pl.2 _
  · intro j hj p hA hl
    obtain ⟨a1, a2, a3⟩ := Anew j hj p hA
    obtain ⟨q1, q2⟩ := place j hj
    have := chain' 0 (L.ord.idxOf j) (Nat.zero_le _) (by omega) (by rw [cntI j hj, hl, cntW_zero])
    rw [r2] at this
    rw [a2]; exact this.length_le
  · intro j hj p hA
    obtain ⟨a1, a2, a3⟩ := Anew j hj p hA
    obtain ⟨q1, q2⟩ := place j hj
    have := snapG (L.ord.idxOf j + 1) (by omega)
    rw [cntN j hj, a1] at this
    simp only [Bool.false_eq_true, if_false, Nat.add_zero] at this
    obtain ⟨t, ht⟩ := this
    show (sn.getD (L.lev.getD j 0) [])[p.1]? = some p.2
    rw [← ht, a3, a2]
    simp
  · intro i j hi hj hne p p' hA hA' hl
    obtain ⟨a1, a2, a3⟩ := Anew i hi p hA
    obtain ⟨b1, b2, b3⟩ := Anew j hj p' hA'
    obtain ⟨q1, q2⟩ := place i hi
    obtain ⟨q3, q4⟩ := place j hj
    have hlt : ∀ i j, i < es.length → j < es.length → ∀ p p', A i = some p → A j = some p' → L.lev.getD i 0 = L.lev.getD j 0 → L.ord.idxOf i < L.ord.idxOf j → p.1 < p'.1 := by
      intro i j hi hj p p' hA hA' hl hlt
      obtain ⟨a1, a2, a3⟩ := Anew i hi p hA
      obtain ⟨b1, b2, b3⟩ := Anew j hj p' hA'
      obtain ⟨q1, q2⟩ := place i hi
      obtain ⟨q3, q4⟩ := place j hj
      have c := cntN i hi
      rw [a1] at c
      simp only [Bool.false_eq_true, if_false, Nat.add_zero] at c
      have := (chain' (L.ord.idxOf i + 1) (L.ord.idxOf j) hlt (by omega) (by rw [c, cntI j hj, hl])).length_le
      rw [a3, List.length_append] at this
      simp only [List.length_singleton] at this
      omega
    rcases Nat.lt_trichotomy (L.ord.idxOf i) (L.ord.idxOf j) with h1 | h1 | h1
    · have := hlt i j hi hj p p' hA hA' hl h1; omega
    · rw [← q2, h1, q4] at hne; exact absurd rfl hne
    · have := hlt j i hj hi p' p hA' hA hl.symm h1; omega

end
end Go.PE
