/- Regions that draw their order; a whole program. Nothing of a program stands here. -/
import Derived.Test.YtmdnkhidhkbgcaaGreatDoorEC
namespace Go.PE
mutual
theorem V.beq_eq : ∀ (a b : V), V.beq a b = true → a = b
  | .bool x, b, h => by cases b <;> simp_all [V.beq]
  | .int k n, b, h => by cases b <;> simp_all [V.beq]
  | .str s, b, h => by
    cases b <;> simp only [V.beq, Bool.false_eq_true] at h
    rename_i s'
    obtain ⟨⟨l⟩⟩ := s
    obtain ⟨⟨l'⟩⟩ := s'
    simp at h
    subst h; rfl
  | .ptr x v o e, b, h => by cases b <;> simp_all [V.beq]
  | .nilptr, b, h => by cases b <;> simp_all [V.beq]
  | .pptr l, b, h => by
    cases b <;> simp only [V.beq, Bool.false_eq_true] at h
    rw [V.beqL_eq l _ h]
  | .slice x v o n e c, b, h => by cases b <;> simp_all [V.beq]
  | .nils, b, h => by cases b <;> simp_all [V.beq]
  | .emp0, b, h => by cases b <;> simp_all [V.beq]
  | .psl n l, b, h => by
    cases b <;> simp only [V.beq, Bool.false_eq_true, Bool.and_eq_true, beq_iff_eq] at h
    rw [h.1, V.beqL_eq l _ h.2]
  | .map x, b, h => by cases b <;> simp_all [V.beq]
  | .nilmap, b, h => by cases b <;> simp_all [V.beq]
  | .fn f a c, b, h => by
    cases b <;> simp only [V.beq, Bool.false_eq_true, Bool.and_eq_true, beq_iff_eq] at h
    rw [h.1.1, V.beqL_eq a _ h.1.2, V.beqL_eq c _ h.2]
  | .nilfn, b, h => by cases b <;> simp_all [V.beq]
  | .iface t v, b, h => by
    cases b <;> simp only [V.beq, Bool.false_eq_true, Bool.and_eq_true, beq_iff_eq] at h
    rw [h.1, V.beq_eq v _ h.2]
  | .nilif, b, h => by cases b <;> simp_all [V.beq]
  | .agg l, b, h => by
    cases b <;> simp only [V.beq, Bool.false_eq_true] at h
    rw [V.beqL_eq l _ h]
  | .tup l, b, h => by
    cases b <;> simp only [V.beq, Bool.false_eq_true] at h
    rw [V.beqL_eq l _ h]
  | .top, b, h => by cases b <;> simp_all [V.beq]
  | .abs k d, b, h => by
    cases b <;> simp only [V.beq, Bool.false_eq_true, Bool.and_eq_true, beq_iff_eq] at h
    rw [h.1, h.2]
  | .syms i l u, b, h => by
    cases b <;> simp only [V.beq, Bool.false_eq_true, Bool.and_eq_true, beq_iff_eq] at h
    rw [h.1.1, h.1.2, h.2]
theorem V.beqL_eq : ∀ (l l' : List V), V.beqL l l' = true → l = l'
  | [], l', h => by cases l' <;> simp_all [V.beqL]
  | a :: l, l', h => by
    cases l' with
    | nil => simp [V.beqL] at h
    | cons b l' =>
      simp only [V.beqL, Bool.and_eq_true] at h
      rw [V.beq_eq a b h.1, V.beqL_eq l l' h.2]
end
def EOp.isNew : EOp → Bool
  | .new _ | .box .. | .buildSl .. | .mkMap | .mkSl .. => true
  | _ => false
def EOp.isWr : EOp → Bool
  | .store .. | .mapUpd .. | .append .. | .copy .. | .clear .. | .call .. | .callv .. => true
  | _ => false
def EOp.isRd : EOp → Bool
  | .load .. | .lookup .. | .toStr .. => true
  | _ => false
section
variable {X : Ctx}
theorem Opd.ev_congr {e e' : Env} {x : Opd} (h : ∀ t ∈ x.tm, e.getD t V.undef = e'.getD t V.undef) : x.ev e = x.ev e' := by
  cases x with
  | t n => exact h n (by simp [Opd.tm])
  | c v => rfl
theorem evs_congr {e e' : Env} : ∀ {l : List Opd}, (∀ t ∈ l.flatMap Opd.tm, e.getD t V.undef = e'.getD t V.undef) → l.map (Opd.ev e) = l.map (Opd.ev e')
  | [], _ => rfl
  | x :: l, h => by
    simp only [List.flatMap_cons, List.mem_append] at h
    rw [List.map_cons, List.map_cons, Opd.ev_congr fun t ht => h t (.inl ht), evs_congr fun t ht => h t (.inr ht)]
theorem evO_congr {e e' : Env} {x : Option Opd} (h : ∀ t ∈ tmO x, e.getD t V.undef = e'.getD t V.undef) : x.map (Opd.ev e) = x.map (Opd.ev e') := by
  cases x with
  | none => rfl
  | some x => simp only [Option.map_some]; rw [Opd.ev_congr (x := x) h]
theorem evP_congr {e e' : Env} : ∀ {l : List (Nat × Nat × Opd)}, (∀ t ∈ l.flatMap (fun p => p.2.2.tm), e.getD t V.undef = e'.getD t V.undef) →
    l.map (fun p => (p.1, p.2.1, p.2.2.ev e)) = l.map (fun p => (p.1, p.2.1, p.2.2.ev e'))
  | [], _ => rfl
  | x :: l, h => by
    simp only [List.flatMap_cons, List.mem_append] at h
    rw [List.map_cons, List.map_cons, Opd.ev_congr fun t ht => h t (.inl ht), evP_congr fun t ht => h t (.inr ht)]
theorem evalOp_congr {e e' : Env} {H : Heap} {op : EOp} (h : ∀ t ∈ op.tms, e.getD t V.undef = e'.getD t V.undef) : evalOp X e H op = evalOp X e' H op := by
  cases op <;> simp only [EOp.tms, List.mem_append] at h <;> simp only [evalOp]
  case pick c a b => rw [Opd.ev_congr (x := c) fun t ht => h t (.inl (.inl ht)), Opd.ev_congr (x := a) fun t ht => h t (.inl (.inr ht)), Opd.ev_congr (x := b) fun t ht => h t (.inr ht)]
  case build z ps => rw [evP_congr h]
  case buildSl es z len ps => rw [evP_congr h]
  case mkFn f a c => rw [evs_congr (l := a) fun t ht => h t (.inl ht), evs_congr (l := c) fun t ht => h t (.inr ht)]
  case subs x lo hi => rw [Opd.ev_congr (x := x) fun t ht => h t (.inl (.inl ht)), evO_congr (x := lo) fun t ht => h t (.inl (.inr ht)), evO_congr (x := hi) fun t ht => h t (.inr ht)]
  case slice es x lo hi => rw [Opd.ev_congr (x := x) fun t ht => h t (.inl (.inl ht)), evO_congr (x := lo) fun t ht => h t (.inl (.inr ht)), evO_congr (x := hi) fun t ht => h t (.inr ht)]
  case sliceArr len es x lo hi => rw [Opd.ev_congr (x := x) fun t ht => h t (.inl (.inl ht)), evO_congr (x := lo) fun t ht => h t (.inl (.inr ht)), evO_congr (x := hi) fun t ht => h t (.inr ht)]
  case mapUpd m k v => rw [Opd.ev_congr (x := m) fun t ht => h t (.inl (.inl ht)), Opd.ev_congr (x := k) fun t ht => h t (.inl (.inr ht)), Opd.ev_congr (x := v) fun t ht => h t (.inr ht)]
  case call f args => rw [evs_congr h]
  case callv f args => rw [Opd.ev_congr (x := f) fun t ht => h t (.inl ht), evs_congr (l := args) fun t ht => h t (.inr ht)]
  all_goals first
    | rfl
    | (rename_i x; rw [Opd.ev_congr (x := x) h]; done)
    | (rename_i x _; rw [Opd.ev_congr (x := x) h]; done)
    | (rename_i x y; rw [Opd.ev_congr (x := x) fun t ht => h t (.inl ht), Opd.ev_congr (x := y) fun t ht => h t (.inr ht)]; done)
theorem evalOp_plain {e : Env} {H H1 : Heap} {op : EOp} {v : V} (h : evalOp X e H op = some (v, H1)) (h1 : op.isWr = false) (h2 : op.isRd = false) (h3 : op.isNew = false) :
    H1 = H ∧ ∀ H', evalOp X e H' op = some (v, H') := by
  cases op <;> simp only [EOp.isWr, EOp.isRd, EOp.isNew, Bool.true_eq_false] at h1 h2 h3 <;> simp only [evalOp, pure1] at h ⊢
  all_goals first
    | (rw [Option.map_eq_some_iff] at h
       obtain ⟨x, hx, h⟩ := h
       simp only [Prod.mk.injEq] at h
       obtain ⟨rfl, rfl⟩ := h
       exact ⟨rfl, fun H' => by rw [hx]; rfl⟩)
    | (simp only [Option.some.injEq, Prod.mk.injEq] at h
       obtain ⟨rfl, rfl⟩ := h
       exact ⟨rfl, fun H' => rfl⟩)
    | (split at h
       all_goals first
         | (simp at h; done)
         | (simp only [Option.some.injEq, Prod.mk.injEq] at h
            obtain ⟨rfl, rfl⟩ := h
            exact ⟨rfl, fun H' => rfl⟩)
         | (simp only [Option.map_eq_some_iff, Prod.mk.injEq] at h
            obtain ⟨x, hx, rfl, rfl⟩ := h
            exact ⟨rfl, fun H' => by simp [hx]⟩)
         | (split at h
            · rename_i hf
              simp only [Option.some.injEq, Prod.mk.injEq] at h
              obtain ⟨rfl, rfl⟩ := h
              exact ⟨rfl, fun H' => by rw [if_pos hf]⟩
            · simp at h))
    | (simp at h; done)
theorem readCells_pre {H H' : Heap} (hp : H <+: H') {b v off n : Nat} {cs : List V} (h : readCells H b v off n = some cs) : readCells H' b v off n = some cs := by
  obtain ⟨t, rfl⟩ := hp
  unfold readCells at h ⊢
  split at h
  · rename_i l ver mn hb
    have hb' : (H ++ t)[b]? = some (.cells l ver mn) := by
      rw [List.getElem?_append_left (List.getElem?_eq_some_iff.1 hb).1]; exact hb
    rw [hb']; exact h
  · simp at h
theorem firstE_pre {H H' : Heap} (hp : H <+: H') {es n : Nat} {x : V} {cs : List V} (h : firstE es n x H = some cs) : firstE es n x H' = some cs := by
  cases x <;> simp only [firstE] at h ⊢
  all_goals try exact h
  all_goals try (simp at h; done)
  split at h
  · rename_i hc
    rw [if_pos hc]
    exact readCells_pre hp h
  · simp at h
theorem evalOp_reads {e : Env} {H H1 : Heap} {op : EOp} {v : V} (h : evalOp X e H op = some (v, H1)) (h2 : op.isRd = true) :
    H1 = H ∧ ∀ H', H <+: H' → evalOp X e H' op = some (v, H') := by
  cases op <;> simp only [EOp.isRd, Bool.false_eq_true] at h2 <;> simp only [evalOp, pure1] at h ⊢
  case load agg n a =>
    rw [Option.map_eq_some_iff] at h
    obtain ⟨x, hx, h⟩ := h
    simp only [Prod.mk.injEq] at h
    obtain ⟨rfl, rfl⟩ := h
    refine ⟨rfl, fun H' hp => ?_⟩
    rw [Option.map_eq_some_iff]
    refine ⟨x, ?_, rfl⟩
    unfold loadE at hx ⊢
    split at hx
    · split at hx
      · rename_i hc
        rw [if_pos hc]
        rw [Option.bind_eq_some_iff] at hx ⊢
        obtain ⟨cs, h1, h2⟩ := hx
        exact ⟨cs, readCells_pre hp h1, h2⟩
      · simp at hx
    · exact hx
    · simp at hx
  case toStr x =>
    split at h
    · simp at h
    · rename_i hn hx
      split at h
      · rename_i cs hcs
        simp only [Option.map_eq_some_iff, Prod.mk.injEq] at h
        obtain ⟨y, hy, rfl, rfl⟩ := h
        refine ⟨rfl, fun H' hp => ?_⟩
        rw [firstE_pre hp hcs]
        simp [hy]
      · simp at h
    · simp at h
  case lookup zero ok m k =>
    rw [Option.map_eq_some_iff] at h
    obtain ⟨x, hx, h⟩ := h
    simp only [Prod.mk.injEq] at h
    obtain ⟨rfl, rfl⟩ := h
    refine ⟨rfl, fun H' hp => ?_⟩
    rw [Option.map_eq_some_iff]
    refine ⟨x, ?_, rfl⟩
    obtain ⟨t, rfl⟩ := hp
    unfold lookupE at hx ⊢
    split at hx
    · exact hx
    · split at hx
      · rename_i hb
        rw [List.getElem?_append_left (List.getElem?_eq_some_iff.1 hb).1, hb]; exact hx
      · simp at hx
    · simp at hx
theorem evalOp_new {e : Env} {H H1 : Heap} {op : EOp} {v : V} (h : evalOp X e H op = some (v, H1)) (h3 : op.isNew = true) :
    (H1 = H ∧ ∀ H', evalOp X e H' op = some (v, H')) ∨ ∃ bx, H1 = H ++ [bx] := by
  cases op <;> simp only [EOp.isNew, Bool.false_eq_true] at h3 <;> simp only [evalOp, newBox] at h ⊢
  case new cs =>
    split at h
    · simp only [Option.some.injEq, Prod.mk.injEq] at h; exact .inr ⟨_, h.2.symm⟩
    · simp at h
  case box n x =>
    split at h
    · simp only [Option.some.injEq, Prod.mk.injEq] at h; exact .inr ⟨_, h.2.symm⟩
    · simp at h
  case mkMap =>
    simp only [Option.some.injEq, Prod.mk.injEq] at h; exact .inr ⟨_, h.2.symm⟩
  case buildSl es z len ps =>
    split at h
    · rename_i hl
      simp only [Option.some.injEq, Prod.mk.injEq] at h
      obtain ⟨rfl, rfl⟩ := h
      exact .inl ⟨rfl, fun H' => by rw [if_pos hl]⟩
    · split at h
      · split at h
        · simp only [Option.some.injEq, Prod.mk.injEq] at h; exact .inr ⟨_, h.2.symm⟩
        · simp at h
      · simp at h
  case mkSl es bs z l c =>
    split at h
    · split at h
      · rename_i hc
        simp only [Option.some.injEq] at h
        split at h
        · rename_i hl
          simp only [Prod.mk.injEq] at h
          obtain ⟨rfl, rfl⟩ := h
          exact .inl ⟨rfl, fun H' => by rw [if_pos hc, if_pos hl]⟩
        · simp only [Prod.mk.injEq] at h; exact .inr ⟨_, h.2.symm⟩
      · simp at h
    · simp at h
end
end Go.PE
namespace Go.PE
def valOper (X : Ctx) (o : EOper) (e : Env) (H : Heap) : Option (V × Heap) := if o.wanted e then evalOp X e H o.op else some (V.undef, H)
def DK.isW : DK → Bool
  | .W => true
  | _ => false
def cntW (l : List (EOper × DK)) (q : Nat) : Nat := (l.take q).countP fun x => x.2.isW
theorem cntW_zero (l : List (EOper × DK)) : cntW l 0 = 0 := by simp [cntW]
theorem cntW_cons (x : EOper × DK) (l : List (EOper × DK)) (q : Nat) : cntW (x :: l) (q + 1) = cntW l q + (if x.2.isW then 1 else 0) := by
  simp [cntW, List.countP_cons]
theorem cntW_succ {l : List (EOper × DK)} {q : Nat} {x : EOper × DK} (h : l[q]? = some x) : cntW l (q + 1) = cntW l q + (if x.2.isW then 1 else 0) := by
  unfold cntW
  rw [List.take_add_one, h]
  simp only [Option.toList_some, List.countP_append, List.countP_singleton]
section
variable {X : Ctx}
theorem evalOper_val (o : EOper) (e : Env) (H : Heap) : evalOper X o e H = (valOper X o e H).map fun p => (e.put o.dst p.1, p.2) := by
  unfold evalOper valOper
  split <;> rfl
theorem wanted_congr {o : EOper} {e e' : Env} (h : ∀ t ∈ o.tms, e.getD t V.undef = e'.getD t V.undef) : o.wanted e = o.wanted e' := by
  obtain ⟨d, op, g⟩ := o
  cases g with
  | none => rfl
  | some g =>
    obtain ⟨t, w⟩ := g
    simp only [EOper.wanted]
    rw [h t (by simp [EOper.tms])]
theorem valOper_congr {o : EOper} {e e' : Env} {H : Heap} (h : ∀ t ∈ o.tms, e.getD t V.undef = e'.getD t V.undef) : valOper X o e H = valOper X o e' H := by
  unfold valOper
  rw [wanted_congr h, evalOp_congr (e := e) (e' := e') fun t ht => h t (by simp [EOper.tms, ht])]
theorem valOper_grows {o : EOper} {e : Env} {H H1 : Heap} {v : V} (hn : o.op.isWr = false) (h : valOper X o e H = some (v, H1)) : H1 = H ∨ ∃ bx, H1 = H ++ [bx] := by
  unfold valOper at h
  split at h
  · cases hr : o.op.isRd with
    | true => exact .inl (evalOp_reads h hr).1
    | false =>
      cases hw : o.op.isNew with
      | true => exact (evalOp_new h hw).imp (·.1) id
      | false => exact .inl (evalOp_plain h hn hr hw).1
  · simp only [Option.some.injEq, Prod.mk.injEq] at h
    exact .inl h.2.symm
theorem evalDraw_cons {o : EOper} {k : DK} {l : List (EOper × DK)} {e : Env} {H : Heap} {sn : List Heap} {pd : List (Env × EOp × V × Nat × Nat)} {r : Env × Heap × List Heap × List (Env × EOp × V × Nat × Nat)}
    (h : evalDraw X ((o, k) :: l) e H sn pd = some r) :
    ∃ v H1 pd1, valOper X o e H = some (v, H1) ∧ evalDraw X l (e.put o.dst v) H1 (if k.isW then sn ++ [H] else sn) pd1 = some r ∧ (∀ p ∈ pd, p ∈ pd1) ∧
      ∀ lo hi, k = .R lo hi → lo ≠ hi → o.wanted e = true → (e, o.op, v, lo, hi) ∈ pd1 := by
  cases k with
  | N =>
    simp only [evalDraw, evalOper_val, Option.bind_eq_some_iff, Option.map_eq_some_iff] at h
    obtain ⟨_, ⟨⟨v, H1⟩, hv, rfl⟩, h2⟩ := h
    exact ⟨v, H1, pd, hv, h2, fun _ h => h, fun _ _ h => by simp at h⟩
  | W =>
    simp only [evalDraw, evalOper_val, Option.bind_eq_some_iff, Option.map_eq_some_iff] at h
    obtain ⟨_, ⟨⟨v, H1⟩, hv, rfl⟩, h2⟩ := h
    exact ⟨v, H1, pd, hv, h2, fun _ h => h, fun _ _ h => by simp at h⟩
  | R lo hi =>
    simp only [evalDraw] at h
    split at h
    · rename_i hw
      rw [Option.bind_eq_some_iff] at h
      obtain ⟨⟨v, H1⟩, hv, h2⟩ := h
      refine ⟨v, H1, _, by rw [valOper, if_pos hw]; exact hv, h2, fun p hp => ?_, fun lo' hi' hk hne _ => ?_⟩
      · split
        · exact hp
        · exact List.mem_cons_of_mem _ hp
      · simp only [DK.R.injEq] at hk
        obtain ⟨rfl, rfl⟩ := hk
        rw [if_neg hne]
        exact List.mem_cons_self
    · rename_i hw
      refine ⟨V.undef, H, pd, by rw [valOper, if_neg hw], h, fun _ h => h, fun _ _ _ _ hw' => absurd hw' hw⟩
theorem evalDraw_run : ∀ (l : List (EOper × DK)) (e : Env) (H : Heap) (sn : List Heap) (pd : List (Env × EOp × V × Nat × Nat)) (ef : Env) (Hf : Heap) (sn' : List Heap) (pd' : List (Env × EOp × V × Nat × Nat)),
    evalDraw X l e H sn pd = some (ef, Hf, sn', pd') → sn <+: sn' ∧ (∀ p ∈ pd, p ∈ pd') ∧
    ∃ (Es : Nat → Env) (Hs : Nat → Heap) (vs : Nat → V), Es 0 = e ∧ Hs 0 = H ∧ Es l.length = ef ∧ Hs l.length = Hf ∧ sn'[sn.length + cntW l l.length]? = some Hf ∧
      ∀ (q : Nat) (o : EOper) (k : DK), l[q]? = some (o, k) → valOper X o (Es q) (Hs q) = some (vs q, Hs (q + 1)) ∧ Es (q + 1) = (Es q).put o.dst (vs q) ∧
        (k.isW = true → sn'[sn.length + cntW l q]? = some (Hs q)) ∧ (∀ lo hi, k = .R lo hi → lo ≠ hi → o.wanted (Es q) = true → (Es q, o.op, vs q, lo, hi) ∈ pd')
  | [], e, H, sn, pd, ef, Hf, sn', pd', h => by
    simp only [evalDraw, Option.some.injEq, Prod.mk.injEq] at h
    obtain ⟨rfl, rfl, rfl, rfl⟩ := h
    refine ⟨List.prefix_append _ _, fun _ h => h, fun _ => e, fun _ => H, fun _ => V.undef, rfl, rfl, rfl, rfl, by simp [cntW], fun q o k hq => by simp at hq⟩
  | (o, k) :: l, e, H, sn, pd, ef, Hf, sn', pd', h => by
    obtain ⟨v, H1, pd1, hv, h2, hpd, hr⟩ := evalDraw_cons h
    obtain ⟨i1, i2, Es, Hs, vs, i3, i4, i5, i6, i7, i8⟩ := evalDraw_run l _ _ _ _ _ _ _ _ h2
    have hlen : (if k.isW then sn ++ [H] else sn).length = sn.length + (if k.isW then 1 else 0) := by split <;> simp
    have hpre : sn <+: (if k.isW then sn ++ [H] else sn) := by
      split
      · exact List.prefix_append _ _
      · exact List.prefix_refl _
    refine ⟨hpre.trans i1, fun p hp => i2 p (hpd p hp), fun q => match q with | 0 => e | q + 1 => Es q, fun q => match q with | 0 => H | q + 1 => Hs q, fun q => match q with | 0 => v | q + 1 => vs q,
      rfl, rfl, i5, i6, ?_, ?_⟩
    · rw [List.length_cons, cntW_cons]
      rw [hlen] at i7
      simp only at i7 ⊢
      rw [← i7]; congr 1; omega
    · intro q o' k' hq
      cases q with
      | zero =>
        simp only [List.getElem?_cons_zero, Option.some.injEq, Prod.mk.injEq] at hq
        obtain ⟨rfl, rfl⟩ := hq
        refine ⟨by simp only [i4]; exact hv, i3, fun hw => ?_, fun lo hi hk hne hw => i2 _ (hr lo hi hk hne hw)⟩
        rw [cntW_zero, Nat.add_zero]
        rw [if_pos hw] at i1
        obtain ⟨t, rfl⟩ := i1
        simp
      | succ q =>
        obtain ⟨j1, j2, j3, j4⟩ := i8 q o' k' (by simpa using hq)
        refine ⟨j1, j2, fun hw => ?_, j4⟩
        rw [cntW_cons]
        rw [hlen] at j3
        simp only at j3 ⊢
        rw [← j3 hw]; congr 1; omega
theorem sameRead_at {e : Env} {op : EOp} {v : V} {snaps : List Heap} {lo hi k : Nat} {g : Heap} (h : sameRead X e op v ((snaps.drop lo).take (hi + 1 - lo)) = true) (h1 : lo ≤ k) (h2 : k ≤ hi)
    (hg : snaps[k]? = some g) (hr : op.isRd = true) : evalOp X e g op = some (v, g) := by
  unfold sameRead at h
  rw [List.all_eq_true] at h
  have hm : g ∈ (snaps.drop lo).take (hi + 1 - lo) := by
    refine List.mem_iff_getElem?.2 ⟨k - lo, ?_⟩
    rw [List.getElem?_take, if_pos (by omega), List.getElem?_drop, ← hg]
    congr 1; omega
  have := h g hm
  split at this
  · rename_i v' H1 hv
    have := V.beq_eq _ _ this
    subst this
    rw [hv, (evalOp_reads hv hr).1]
  · simp at this
end
end Go.PE
namespace Go.PE
structure Laid (es : List EOper) (b : List Nat) (L : Lay) : Prop where
  bl : ∀ i, i < es.length → ∀ j, bef b j i = true → j < i
  oc : ∀ i, i < es.length → i ∈ L.ord
  on : ∀ q, q < es.length → L.ord.idxOf (L.ord.getD q 0) = q
  ol : ∀ q, q < es.length → L.ord.getD q 0 < es.length
  olen : L.ord.length = es.length
  lo : ∀ i, i < es.length → L.lev.getD i 0 = 0 ∨ ∃ q, q < es.length ∧ isWr es q = true ∧ L.lev.getD q 0 + 1 = L.lev.getD i 0 ∧ bef b q i = true
  hi : ∀ i, i < es.length → L.hi.getD i 0 = L.m ∨ ∃ q, q < es.length ∧ isWr es q = true ∧ L.lev.getD q 0 = L.hi.getD i 0 ∧ bef b i q = true
  cnt : ∀ i, i < es.length → (L.ord.take (L.ord.idxOf i)).countP (isWr es) = L.lev.getD i 0
  wl : ∀ i, i < es.length → isWr es i = true → L.lev.getD i 0 < L.m
  ex : ∀ k, k < L.m → ∃ q, q < es.length ∧ isWr es q = true ∧ L.lev.getD q 0 = k
  cm : L.ord.countP (isWr es) = L.m
  slots : ∀ i j, i < es.length → j < es.length → i ≠ j → ∀ t, dstAt es i = some t → dstAt es j ≠ some t
  look : ∀ i j, i < es.length → j < es.length → ∀ t, dstAt es i = some t → t ∈ tmsAt es j → i = j ∨ bef b i j = true ∨ bef b j i = true
  fwd : ∀ i j, i < es.length → j < es.length → bef b i j = true → L.ord.idxOf i < L.ord.idxOf j
  winj : ∀ i j, i < es.length → j < es.length → isWr es i = true → isWr es j = true → L.lev.getD i 0 = L.lev.getD j 0 → i = j
theorem mem_wrs {es : List EOper} {q : Nat} : q ∈ wrs es ↔ q < es.length ∧ isWr es q = true := by
  simp [wrs]
theorem laid_of {es : List EOper} {b : List Nat} {L : Lay} (h : ((List.range es.length).all fun j => oneOk es b L j) = true) (hl : L.ord.length = es.length) (hm : L.m ≤ es.length)
    (hc : L.ord.countP (isWr es) = L.m) : Laid es b L := by
  rw [List.all_eq_true] at h
  have one : ∀ i, i < es.length → oneOk es b L i = true := fun i hi => h i (List.mem_range.2 hi)
  simp only [oneOk, Bool.and_eq_true, decide_eq_true_eq, Bool.or_eq_true, beq_iff_eq, List.any_eq_true, List.all_eq_true, List.mem_range, Bool.not_eq_true', List.contains_iff_mem, mem_wrs] at one
  have pair : ∀ i j, i < es.length → j < es.length → pairOk es b L i j = true := fun i j hi hj => (one i hi).2 j hj
  simp only [pairOk, Bool.and_eq_true, Bool.or_eq_true, beq_iff_eq, bne_iff_ne, ne_eq, decide_eq_true_eq, Bool.not_eq_true', Option.isNone_iff_eq_none] at pair
  refine ⟨?_, ?_, ?_, ?_, hl, ?_, ?_, ?_, ?_, ?_, hc, ?_, ?_, ?_, ?_⟩
  · intro i hi j hj
    have h1 := (one i hi).1.1.1.1.1.1.1.1.1
    rcases Nat.lt_or_ge j i with h2 | h2
    · exact h2
    · have : b.getD i 0 < 2 ^ j := Nat.lt_of_lt_of_le h1 (Nat.pow_le_pow_right (by omega) h2)
      rw [bef, Nat.testBit_lt_two_pow this] at hj
      simp at hj
  · intro i hi; exact (one i hi).1.1.1.1.1.1.1.1.2
  · intro i hi; exact (one i hi).1.1.1.1.1.1.1.2
  · intro i hi; exact (one i hi).1.1.1.1.1.1.2
  · intro i hi
    rcases (one i hi).1.1.1.1.1.2 with h1 | ⟨q, ⟨h1, h2⟩, h3, h4⟩
    · exact .inl h1
    · exact .inr ⟨q, h1, h2, h3, h4⟩
  · intro i hi
    rcases (one i hi).1.1.1.1.2 with h1 | ⟨q, ⟨h1, h2⟩, h3, h4⟩
    · exact .inl h1
    · exact .inr ⟨q, h1, h2, h3, h4⟩
  · intro i hi; exact (one i hi).1.1.1.2
  · intro i hi hw
    rcases (one i hi).1.1.2 with h1 | h1
    · rw [hw] at h1; simp at h1
    · exact h1
  · intro k hk
    rcases (one k (by omega)).1.2 with h1 | ⟨q, ⟨h1, h2⟩, h3⟩
    · omega
    · exact ⟨q, h1, h2, h3⟩
  · intro i j hi hj hne t ht ht'
    rcases (pair i j hi hj).1.1.1 with (h1 | h1) | h1
    · exact hne h1
    · rw [ht] at h1; simp at h1
    · rw [ht, ht'] at h1; simp at h1
  · intro i j hi hj t ht hmem
    have h1 := (pair i j hi hj).1.1.2
    rw [ht] at h1
    simp only [Bool.or_eq_true, Bool.not_eq_true', beq_iff_eq] at h1
    rcases h1 with ((h1 | h1) | h1) | h1
    · rw [← Bool.not_eq_true, List.contains_iff_mem] at h1; exact absurd hmem h1
    · exact .inl h1
    · exact .inr (.inl h1)
    · exact .inr (.inr h1)
  · intro i j hi hj hb
    rcases (pair i j hi hj).1.2 with h1 | h1
    · rw [hb] at h1; simp at h1
    · exact h1
  · intro i j hi hj h1 h2 h3
    rcases (pair i j hi hj).2 with ((h4 | h4) | h4) | h4
    · exact h4
    · rw [h1] at h4; simp at h4
    · rw [h2] at h4; simp at h4
    · exact absurd h3 h4
def Views (es : List EOper) (e0 ef : Env) (D : Nat → Prop) (S : Nat → Prop) (e : Env) : Prop :=
  ∀ t, S t → ((∃ j, j < es.length ∧ D j ∧ dstAt es j = some t) → e.getD t V.undef = ef.getD t V.undef) ∧ ((∀ j, j < es.length → D j → dstAt es j ≠ some t) → e.getD t V.undef = e0.getD t V.undef)
theorem Views.same {es : List EOper} {e0 ef e e' : Env} {D S : Nat → Prop} (h : Views es e0 ef D S e) (h' : Views es e0 ef D S e') {t : Nat} (ht : S t) : e.getD t V.undef = e'.getD t V.undef := by
  by_cases hj : ∃ j, j < es.length ∧ D j ∧ dstAt es j = some t
  · rw [(h t ht).1 hj, (h' t ht).1 hj]
  · have : ∀ j, j < es.length → D j → dstAt es j ≠ some t := fun j hl hd he => hj ⟨j, hl, hd, he⟩
    rw [(h t ht).2 this, (h' t ht).2 this]
theorem Laid.views {es : List EOper} {b : List Nat} {L : Lay} (l : Laid es b L) {e0 ef e : Env} {D : Nat → Prop} (h : Views es e0 ef D (fun _ => True) e) {i : Nat} (hi : i < es.length)
    (hd : ∀ j, bef b j i = true → D j) (hc : ∀ j, j < es.length → D j → bef b i j = false) (hn : ¬ D i) : Views es e0 ef (fun j => bef b j i = true) (fun t => t ∈ tmsAt es i) e := by
  intro t ht
  refine ⟨fun ⟨j, hj, hb, he⟩ => (h t trivial).1 ⟨j, hj, hd j hb, he⟩, fun hno => (h t trivial).2 fun j hj hdj he => ?_⟩
  rcases l.look j i hj hi t he ht with rfl | hb | hb
  · exact hn hdj
  · exact hno j hj hb he
  · rw [hc j hj hdj] at hb; simp at hb
section
variable {X : Ctx}
def OpFact (X : Ctx) (es : List EOper) (L : Lay) (G : Nat → Heap) (v : Nat → V) (A : Nat → Option (Nat × Box)) (i : Nat) (e : Env) : Prop :=
  (isWr es i = false ∧ A i = none ∧ ∀ k, L.lev.getD i 0 ≤ k → k ≤ L.hi.getD i 0 → k ≤ L.m → valOper X (es.getD i default) e (G k) = some (v i, G k)) ∨
  (isWr es i = false ∧ ∃ Hb bx, A i = some (Hb.length, bx) ∧ (es.getD i default).op.isNew = true ∧ (es.getD i default).wanted e = true ∧ evalOp X e Hb (es.getD i default).op = some (v i, Hb ++ [bx])) ∨
  (isWr es i = true ∧ A i = none ∧ ∃ H1, valOper X (es.getD i default) e (G (L.lev.getD i 0)) = some (v i, H1) ∧ H1 <+: G (L.lev.getD i 0 + 1) ∧
    ∀ j, j < es.length → ∀ p, A j = some p → L.lev.getD j 0 = L.lev.getD i 0 + 1 → H1.length ≤ p.1)
structure DrawFacts (X : Ctx) (es : List EOper) (b : List Nat) (L : Lay) (e0 ef : Env) (H0 Hf : Heap) (G : Nat → Heap) (v : Nat → V) (A : Nat → Option (Nat × Box)) : Prop where
  len : ef.length = e0.length
  rest : ∀ t, (∀ i, i < es.length → dstAt es i ≠ some t) → ef.getD t V.undef = e0.getD t V.undef
  val : ∀ i, i < es.length → ∀ t, dstAt es i = some t → t < e0.length → ef.getD t V.undef = v i
  start : H0 <+: G 0
  fin : G L.m = Hf
  run : ∀ i, i < es.length → ∀ e, Views es e0 ef (fun j => bef b j i = true) (fun t => t ∈ tmsAt es i) e → OpFact X es L G v A i e
  new0 : ∀ j, j < es.length → ∀ p, A j = some p → L.lev.getD j 0 = 0 → H0.length ≤ p.1
  at_ : ∀ j, j < es.length → ∀ p, A j = some p → (G (L.lev.getD j 0))[p.1]? = some p.2
  dis : ∀ i j, i < es.length → j < es.length → i ≠ j → ∀ p p', A i = some p → A j = some p' → L.lev.getD i 0 = L.lev.getD j 0 → p.1 ≠ p'.1
theorem writes_eq (op : EOp) : writes op = op.isWr := by cases op <;> rfl
theorem reads_eq (op : EOp) : readsMem op = op.isRd := by cases op <;> rfl
theorem kindAt_isW (es : List EOper) (L : Lay) (i : Nat) : (kindAt es L i).isW = isWr es i := by
  unfold kindAt isWr
  cases es[i]? with
  | none => rfl
  | some o =>
    simp only
    split
    · rename_i h; rw [h]; rfl
    · rename_i h
      simp only [Bool.not_eq_true] at h
      rw [h]
      split <;> rfl
theorem isWr_getD {es : List EOper} {i : Nat} (h : i < es.length) : isWr es i = (es.getD i default).op.isWr := by
  simp [isWr, List.getElem?_eq_getElem h, writes_eq]
theorem dstAt_getD {es : List EOper} {i : Nat} (h : i < es.length) : dstAt es i = (es.getD i default).dst := by
  simp [dstAt, List.getElem?_eq_getElem h]
theorem tmsAt_getD {es : List EOper} {i : Nat} (h : i < es.length) : tmsAt es i = (es.getD i default).tms := by
  simp [tmsAt, List.getElem?_eq_getElem h]
theorem getElem?_cDraw {es : List EOper} {b : List Nat} {L : Lay} (l : Laid es b L) {q : Nat} (h : q < es.length) :
    (cDraw es L)[q]? = some (es.getD (L.ord.getD q 0) default, kindAt es L (L.ord.getD q 0)) := by
  have : q < L.ord.length := by rw [l.olen]; exact h
  simp [cDraw, List.getElem?_map, List.getElem?_eq_getElem this]
theorem cntW_cDraw (es : List EOper) (L : Lay) (q : Nat) : cntW (cDraw es L) q = (L.ord.take q).countP (isWr es) := by
  unfold cntW cDraw
  rw [← List.map_take, List.countP_map]
  congr 1
  funext i
  exact kindAt_isW es L i
theorem put_length (e : Env) (d : Option Nat) (v : V) : (e.put d v).length = e.length := by
  cases d <;> simp [Env.put]
theorem put_getD_ne {e : Env} {d : Option Nat} {v : V} {t : Nat} (h : d ≠ some t) : (e.put d v).getD t V.undef = e.getD t V.undef := by
  cases d with
  | none => rfl
  | some d =>
    have : d ≠ t := fun e => h (by rw [e])
    simp [Env.put, List.getElem?_set_ne this]
theorem put_getD_self {e : Env} {v : V} {t : Nat} : (e.put (some t) v).getD t V.undef = if t < e.length then v else V.undef := by
  simp only [Env.put, List.getD_eq_getElem?_getD]
  by_cases h : t < e.length
  · rw [List.getElem?_set_self h, if_pos h]; rfl
  · rw [if_neg h, List.getElem?_eq_none (by simp; omega)]; rfl
theorem draw_facts {es : List EOper} {b : List Nat} {L : Lay} (l : Laid es b L) {e0 ef : Env} {H0 Hf : Heap} {sn : List Heap} {pd : List (Env × EOp × V × Nat × Nat)}
    (h : evalDraw X (cDraw es L) e0 H0 [] [] = some (ef, Hf, sn, pd)) (hp : drawOk X sn pd = true) : ∃ G v A, DrawFacts X es b L e0 ef H0 Hf G v A := by
  obtain ⟨_, _, Es, Hs, vs, r1, r2, r3, r4, r5, r6⟩ := evalDraw_run _ _ _ _ _ _ _ _ _ h
  have hlen : (cDraw es L).length = es.length := by simp [cDraw, l.olen]
  rw [hlen] at r3 r4 r5
  simp only [List.length_nil, Nat.zero_add] at r5 r6
  have place : ∀ i, i < es.length → L.ord.idxOf i < es.length ∧ L.ord.getD (L.ord.idxOf i) 0 = i := by
    intro i hi
    have h1 : L.ord.idxOf i < L.ord.length := List.idxOf_lt_length_of_mem (l.oc i hi)
    refine ⟨by rw [← l.olen]; exact h1, ?_⟩
    rw [List.getD_eq_getElem?_getD, List.getElem?_eq_getElem h1, List.getElem_idxOf h1]; rfl
  have step : ∀ q, q < es.length → _ := fun q hq => r6 q _ _ (getElem?_cDraw l hq)
  have cnt : ∀ q, cntW (cDraw es L) q = (L.ord.take q).countP (isWr es) := cntW_cDraw es L
  have cntS : ∀ q, q < es.length → cntW (cDraw es L) (q + 1) = cntW (cDraw es L) q + (if isWr es (L.ord.getD q 0) then 1 else 0) := by
    intro q hq
    rw [cntW_succ (getElem?_cDraw l hq)]
    simp only [kindAt_isW]
  have cntM : ∀ q q', q ≤ q' → cntW (cDraw es L) q ≤ cntW (cDraw es L) q' := by
    intro q q' hqq
    rw [cnt, cnt]
    have : L.ord.take q <+: L.ord.take q' := by
      rw [List.prefix_take_iff]
      exact ⟨List.take_prefix _ _, by simp; omega⟩
    exact this.sublist.countP_le
  have cntI : ∀ i, i < es.length → cntW (cDraw es L) (L.ord.idxOf i) = L.lev.getD i 0 := fun i hi => by rw [cnt, l.cnt i hi]
  have cntE : cntW (cDraw es L) es.length = L.m := by
    rw [cnt, List.take_of_length_le (by rw [l.olen]; exact Nat.le_refl _), l.cm]
  have grow : ∀ q, q < es.length → isWr es (L.ord.getD q 0) = false → Hs (q + 1) = Hs q ∨ ∃ bx, Hs (q + 1) = Hs q ++ [bx] := by
    intro q hq hw
    have := (step q hq).1
    rw [isWr_getD (l.ol q hq)] at hw
    exact valOper_grows hw this
  have chain : ∀ d q, q + d ≤ es.length → cntW (cDraw es L) q = cntW (cDraw es L) (q + d) → Hs q <+: Hs (q + d) := by
    intro d
    induction d with
    | zero => intro q _ _; exact List.prefix_refl _
    | succ d ih =>
      intro q hq hc
      have h1 := cntM q (q + d) (by omega)
      have h2 := cntS (q + d) (by omega)
      rw [Nat.add_assoc] at h2
      have hw : isWr es (L.ord.getD (q + d) 0) = false := by
        cases hw : isWr es (L.ord.getD (q + d) 0) with
        | false => rfl
        | true => rw [hw, if_pos rfl] at h2; omega
      rw [hw] at h2
      simp only [Bool.false_eq_true, if_false, Nat.add_zero] at h2
      refine (ih q (by omega) (by omega)).trans ?_
      rcases grow (q + d) (by omega) hw with h3 | ⟨bx, h3⟩
      · rw [← Nat.add_assoc, h3]; exact List.prefix_refl _
      · rw [← Nat.add_assoc, h3]; exact List.prefix_append _ _
  have chain' : ∀ q q', q ≤ q' → q' ≤ es.length → cntW (cDraw es L) q = cntW (cDraw es L) q' → Hs q <+: Hs q' := by
    intro q q' h1 h2 h3
    obtain ⟨d, rfl⟩ := Nat.le.dest h1
    exact chain d q h2 h3
  have snap : ∀ d q, q + d = es.length → ∃ g, sn[cntW (cDraw es L) q]? = some g ∧ Hs q <+: g := by
    intro d
    induction d with
    | zero =>
      intro q hq
      have hq : q = es.length := by omega
      subst hq
      exact ⟨Hf, r5, by rw [r4]; exact List.prefix_refl _⟩
    | succ d ih =>
      intro q hq
      cases hw : isWr es (L.ord.getD q 0) with
      | true => exact ⟨Hs q, (step q (by omega)).2.2.1 (by rw [kindAt_isW]; exact hw), List.prefix_refl _⟩
      | false =>
        obtain ⟨g, h1, h2⟩ := ih (q + 1) (by omega)
        have h3 := cntS q (by omega)
        rw [hw] at h3
        simp only [Bool.false_eq_true, if_false, Nat.add_zero] at h3
        rw [h3] at h1
        refine ⟨g, h1, List.IsPrefix.trans ?_ h2⟩
        rcases grow q (by omega) hw with h3 | ⟨bx, h3⟩
        · rw [h3]; exact List.prefix_refl _
        · rw [h3]; exact List.prefix_append _ _
  have snapG : ∀ q, q ≤ es.length → Hs q <+: sn.getD (cntW (cDraw es L) q) [] := by
    intro q hq
    obtain ⟨g, h1, h2⟩ := snap (es.length - q) q (by omega)
    rw [List.getD_eq_getElem?_getD, h1]; exact h2
  have snapL : ∀ k, k ≤ L.m → sn[k]? = some (sn.getD k []) := by
    intro k hk
    have : k < sn.length := by
      have := (List.getElem?_eq_some_iff.1 r5).1
      rw [cntE] at this; omega
    rw [List.getD_eq_getElem?_getD, List.getElem?_eq_getElem this]; rfl
  have elen : ∀ q, q ≤ es.length → (Es q).length = e0.length := by
    intro q
    induction q with
    | zero => intro _; rw [r1]
    | succ q ih => intro hq; rw [(step q (by omega)).2.1, put_length, ih (by omega)]
  have ekeep : ∀ d q, q + d ≤ es.length → ∀ t, (∀ r, q ≤ r → r < q + d → dstAt es (L.ord.getD r 0) ≠ some t) → (Es (q + d)).getD t V.undef = (Es q).getD t V.undef := by
    intro d
    induction d with
    | zero => intro q _ t _; rfl
    | succ d ih =>
      intro q hq t hno
      have h1 := hno (q + d) (by omega) (by omega)
      rw [dstAt_getD (l.ol _ (by omega))] at h1
      rw [← Nat.add_assoc, (step (q + d) (by omega)).2.1, put_getD_ne h1]
      exact ih q (by omega) t fun r h2 h3 => hno r h2 (by omega)
  have views : ∀ q, q ≤ es.length → Views es e0 ef (fun j => L.ord.idxOf j < q) (fun _ => True) (Es q) := by
    intro q hq t _
    constructor
    · rintro ⟨j, hj, hjq, hd⟩
      obtain ⟨p1, p2⟩ := place j hj
      have other : ∀ r, L.ord.idxOf j + 1 ≤ r → r < es.length → dstAt es (L.ord.getD r 0) ≠ some t := by
        intro r h1 h2
        have hne : j ≠ L.ord.getD r 0 := by
          intro he
          have := l.on r h2
          rw [← he] at this
          omega
        exact l.slots j _ hj (l.ol r h2) hne t hd
      have h1 := ekeep (q - (L.ord.idxOf j + 1)) (L.ord.idxOf j + 1) (by omega) t fun r h2 h3 => other r h2 (by omega)
      have h2 := ekeep (es.length - (L.ord.idxOf j + 1)) (L.ord.idxOf j + 1) (by omega) t fun r h2 h3 => other r h2 (by omega)
      rw [show L.ord.idxOf j + 1 + (q - (L.ord.idxOf j + 1)) = q by omega] at h1
      rw [show L.ord.idxOf j + 1 + (es.length - (L.ord.idxOf j + 1)) = es.length by omega, r3] at h2
      rw [h1, h2]
    · intro hno
      have := ekeep q 0 (by omega) t fun r _ h2 => by
        have h3 := l.on r (by omega)
        exact hno _ (l.ol r (by omega)) (by show L.ord.idxOf (L.ord.getD r 0) < q; rw [h3]; omega)
      rw [Nat.zero_add, r1] at this
      exact this
  let v : Nat → V := fun i => vs (L.ord.idxOf i)
  let A : Nat → Option (Nat × Box) := fun i => if isWr es i then none else ((Hs (L.ord.idxOf i + 1))[(Hs (L.ord.idxOf i)).length]?).map fun bx => ((Hs (L.ord.idxOf i)).length, bx)
  have stepI : ∀ i, i < es.length → valOper X (es.getD i default) (Es (L.ord.idxOf i)) (Hs (L.ord.idxOf i)) = some (v i, Hs (L.ord.idxOf i + 1)) ∧
      Es (L.ord.idxOf i + 1) = (Es (L.ord.idxOf i)).put (dstAt es i) (v i) ∧
      (isWr es i = true → sn[L.lev.getD i 0]? = some (Hs (L.ord.idxOf i))) ∧
      (∀ lo hi, kindAt es L i = .R lo hi → lo ≠ hi → (es.getD i default).wanted (Es (L.ord.idxOf i)) = true → (Es (L.ord.idxOf i), (es.getD i default).op, v i, lo, hi) ∈ pd) := by
    intro i hi
    obtain ⟨p1, p2⟩ := place i hi
    have := step _ p1
    rw [p2] at this
    rw [kindAt_isW, cntI i hi] at this
    rw [dstAt_getD hi]
    exact this
  have Anew : ∀ i, i < es.length → ∀ p, A i = some p → isWr es i = false ∧ p.1 = (Hs (L.ord.idxOf i)).length ∧ Hs (L.ord.idxOf i + 1) = Hs (L.ord.idxOf i) ++ [p.2] := by
    intro i hi p hA
    simp only [A] at hA
    split at hA
    · simp at hA
    · rename_i hw
      simp only [Bool.not_eq_true] at hw
      rw [Option.map_eq_some_iff] at hA
      obtain ⟨bx, h1, rfl⟩ := hA
      obtain ⟨p1, p2⟩ := place i hi
      rcases grow _ p1 (by rw [p2]; exact hw) with h3 | ⟨bx', h3⟩
      · rw [h3, List.getElem?_eq_none (Nat.le_refl _)] at h1; simp at h1
      · refine ⟨hw, rfl, ?_⟩
        rw [h3] at h1 ⊢
        simp at h1
        rw [h1]
  have cntN : ∀ i, i < es.length → cntW (cDraw es L) (L.ord.idxOf i + 1) = L.lev.getD i 0 + (if isWr es i then 1 else 0) := by
    intro i hi
    obtain ⟨p1, p2⟩ := place i hi
    rw [cntS _ p1, p2, cntI i hi]
  refine ⟨fun k => sn.getD k [], v, A, ⟨?_, ?_, ?_, ?_, ?_, ?_, ?_, ?_, ?_⟩⟩
  · rw [← r3]; exact elen _ (Nat.le_refl _)
  · intro t hno
    have := (views es.length (Nat.le_refl _) t trivial).2 fun j hj _ => hno j hj
    rw [r3] at this; exact this
  · intro i hi t ht htl
    obtain ⟨p1, p2⟩ := place i hi
    have h1 := (views (L.ord.idxOf i + 1) (by omega) t trivial).1 ⟨i, hi, by omega, ht⟩
    rw [← h1, (stepI i hi).2.1, ht, put_getD_self, if_pos (by rw [elen _ (by omega)]; exact htl)]
  · have := snapG 0 (Nat.zero_le _)
    rw [r2, cntW_zero] at this; exact this
  · show sn.getD L.m [] = Hf
    rw [cntE] at r5
    rw [List.getD_eq_getElem?_getD, r5]; rfl
  · intro i hi e he
    obtain ⟨p1, p2⟩ := place i hi
    obtain ⟨s1, s2, s3, s4⟩ := stepI i hi
    have hv : Views es e0 ef (fun j => bef b j i = true) (fun t => t ∈ tmsAt es i) (Es (L.ord.idxOf i)) := by
      refine l.views (views _ (by omega)) hi (fun j hj => l.fwd j i (by have := l.bl i hi j hj; omega) hi hj) (fun j hj hd => ?_) (by omega)
      cases hb : bef b i j with
      | false => rfl
      | true => have := l.fwd i j hi hj hb; omega
    have heq : ∀ t ∈ (es.getD i default).tms, e.getD t V.undef = (Es (L.ord.idxOf i)).getD t V.undef := by
      intro t ht
      rw [← tmsAt_getD hi] at ht
      exact he.same hv ht
    have val : ∀ H, valOper X (es.getD i default) e H = valOper X (es.getD i default) (Es (L.ord.idxOf i)) H := fun H => valOper_congr heq
    cases hw : isWr es i with
    | true =>
      refine .inr (.inr ⟨hw, by simp [A, hw], Hs (L.ord.idxOf i + 1), ?_, ?_, ?_⟩)
      · rw [val]
        show valOper X _ _ (sn.getD (L.lev.getD i 0) []) = _
        have hsn : sn.getD (L.lev.getD i 0) [] = Hs (L.ord.idxOf i) := by rw [List.getD_eq_getElem?_getD (l := sn), s3 hw]; rfl
        rw [hsn]; exact s1
      · have := snapG (L.ord.idxOf i + 1) (by omega)
        rw [cntN i hi, hw, if_pos rfl] at this; exact this
      · intro j hj p hA hlev
        obtain ⟨a1, a2, a3⟩ := Anew j hj p hA
        obtain ⟨q1, q2⟩ := place j hj
        have c1 := cntI j hj
        have c2 := cntN i hi
        rw [hw, if_pos rfl] at c2
        have hle : L.ord.idxOf i + 1 ≤ L.ord.idxOf j := by
          rcases Nat.lt_or_ge (L.ord.idxOf i) (L.ord.idxOf j) with h1 | h1
          · exact h1
          · have := cntM (L.ord.idxOf j) (L.ord.idxOf i) h1
            rw [cntI i hi] at this; omega
        rw [a2]
        exact (chain' _ _ hle (by omega) (by omega)).length_le
    | false =>
      cases hwt : (es.getD i default).wanted (Es (L.ord.idxOf i)) with
      | false =>
        have s1' := s1
        rw [valOper, if_neg (by rw [hwt]; simp)] at s1'
        simp only [Option.some.injEq, Prod.mk.injEq] at s1'
        refine .inl ⟨hw, by simp [A, hw, ← s1'.2], fun k _ _ _ => ?_⟩
        rw [val, valOper, if_neg (by rw [hwt]; simp), ← s1'.1]
      | true =>
        have s1' := s1
        rw [valOper, if_pos hwt] at s1'
        cases hr : (es.getD i default).op.isRd with
        | true =>
          have rd := evalOp_reads s1' hr
          refine .inl ⟨hw, by simp [A, hw, rd.1], fun k k1 k2 k3 => ?_⟩
          rw [val, valOper, if_pos hwt]
          have hk : kindAt es L i = .R (L.lev.getD i 0) (L.hi.getD i 0) := by
            unfold kindAt
            rw [List.getElem?_eq_getElem hi]
            have e1 : es.getD i default = es[i] := by simp [List.getElem?_eq_getElem hi]
            rw [isWr_getD hi, e1, ← writes_eq] at hw
            rw [e1, ← reads_eq] at hr
            simp [hw, hr]
          by_cases hne : L.lev.getD i 0 = L.hi.getD i 0
          · have : k = L.lev.getD i 0 := by omega
            subst this
            refine rd.2 _ ?_
            have := snapG (L.ord.idxOf i) (by omega)
            rw [cntI i hi] at this; exact this
          · have hm := s4 _ _ hk hne hwt
            unfold drawOk at hp
            rw [List.all_eq_true] at hp
            exact sameRead_at (hp _ hm) k1 k2 (snapL k k3) hr
        | false =>
          cases hnw : (es.getD i default).op.isNew with
          | true =>
            rcases evalOp_new s1' hnw with ⟨n1, n2⟩ | ⟨bx, n1⟩
            · refine .inl ⟨hw, by simp [A, hw, n1], fun k _ _ _ => ?_⟩
              rw [val, valOper, if_pos hwt]; exact n2 _
            · refine .inr (.inl ⟨hw, Hs (L.ord.idxOf i), bx, by simp [A, hw, n1], hnw, by rw [wanted_congr heq]; exact hwt, ?_⟩)
              rw [← n1, ← s1']
              exact evalOp_congr fun t ht => heq t (by unfold EOper.tms; exact List.mem_append_left _ ht)
          | false =>
            have hw' := hw
            rw [isWr_getD hi] at hw'
            have pl := evalOp_plain s1' hw' hr hnw
            refine .inl ⟨hw, by simp [A, hw, pl.1], fun k _ _ _ => ?_⟩
            rw [val, valOper, if_pos hwt]; exact pl.2 _
  · intro j hj p hA hl
    obtain ⟨a1, a2, a3⟩ := Anew j hj p hA
    obtain ⟨q1, q2⟩ := place j hj
    have := chain' 0 (L.ord.idxOf j) (Nat.zero_le _) (by omega) (by rw [cntI j hj, hl, cntW_zero])
    rw [r2] at this
    rw [a2]; exact this.length_le
  · intro j hj p hA
    obtain ⟨a1, a2, a3⟩ := Anew j hj p hA
    obtain ⟨q1, q2⟩ := place j hj
    have := snapG (L.ord.idxOf j + 1) (by omega)
    rw [cntN j hj, a1] at this
    simp only [Bool.false_eq_true, if_false, Nat.add_zero] at this
    obtain ⟨t, ht⟩ := this
    show (sn.getD (L.lev.getD j 0) [])[p.1]? = some p.2
    rw [← ht, a3, a2]
    simp
  · intro i j hi hj hne p p' hA hA' hl
    obtain ⟨a1, a2, a3⟩ := Anew i hi p hA
    obtain ⟨b1, b2, b3⟩ := Anew j hj p' hA'
    obtain ⟨q1, q2⟩ := place i hi
    obtain ⟨q3, q4⟩ := place j hj
    have hlt : ∀ i j, i < es.length → j < es.length → ∀ p p', A i = some p → A j = some p' → L.lev.getD i 0 = L.lev.getD j 0 → L.ord.idxOf i < L.ord.idxOf j → p.1 < p'.1 := by
      intro i j hi hj p p' hA hA' hl hlt
      obtain ⟨a1, a2, a3⟩ := Anew i hi p hA
      obtain ⟨b1, b2, b3⟩ := Anew j hj p' hA'
      obtain ⟨q1, q2⟩ := place i hi
      obtain ⟨q3, q4⟩ := place j hj
      have c := cntN i hi
      rw [a1] at c
      simp only [Bool.false_eq_true, if_false, Nat.add_zero] at c
      have := (chain' (L.ord.idxOf i + 1) (L.ord.idxOf j) hlt (by omega) (by rw [c, cntI j hj, hl])).length_le
      rw [a3, List.length_append] at this
      simp only [List.length_singleton] at this
      omega
    rcases Nat.lt_trichotomy (L.ord.idxOf i) (L.ord.idxOf j) with h1 | h1 | h1
    · have := hlt i j hi hj p p' hA hA' hl h1; omega
    · rw [← q2, h1, q4] at hne; exact absurd rfl hne
    · have := hlt j i hj hi p' p hA' hA hl.symm h1; omega
end
end Go.PE
namespace Go.PE
theorem fold_test (acc : List Nat) (x : Nat) : ∀ (l : List Edge) (s : Nat),
    (l.foldl (fun s e => if hard e then s ||| 2 ^ e.on ||| acc.getD e.on 0 else s) s).testBit x = true → s.testBit x = true ∨ ∃ e ∈ l, hard e = true ∧ (x = e.on ∨ (acc.getD e.on 0).testBit x = true)
  | [], s, h => .inl h
  | e :: l, s, h => by
    rw [List.foldl_cons] at h
    rcases fold_test acc x l _ h with h1 | ⟨e', h1, h2, h3⟩
    · split at h1
      · rename_i hh
        rw [Nat.testBit_or, Nat.testBit_or, Bool.or_eq_true, Bool.or_eq_true] at h1
        rcases h1 with (h1 | h1) | h1
        · exact .inl h1
        · rw [Nat.testBit_two_pow] at h1
          exact .inr ⟨e, List.mem_cons_self, hh, .inl (by have := h1; simp at this; exact this.symm)⟩
        · exact .inr ⟨e, List.mem_cons_self, hh, .inr h1⟩
      · exact .inl h1
    · exact .inr ⟨e', List.mem_cons_of_mem _ h1, h2, h3⟩
theorem befL_go : ∀ (l : List Oper) (acc : List Nat), acc <+: l.foldl (fun acc o => acc ++ [bitsOf acc o]) acc ∧
    (l.foldl (fun acc o => acc ++ [bitsOf acc o]) acc).length = acc.length + l.length ∧
    ∀ i, i < l.length → ∃ o acc', l[i]? = some o ∧ acc' <+: l.foldl (fun acc o => acc ++ [bitsOf acc o]) acc ∧ (l.foldl (fun acc o => acc ++ [bitsOf acc o]) acc)[acc.length + i]? = some (bitsOf acc' o)
  | [], acc => ⟨List.prefix_refl _, by simp, fun i hi => by simp at hi⟩
  | o :: l, acc => by
    obtain ⟨h1, h2, h3⟩ := befL_go l (acc ++ [bitsOf acc o])
    rw [List.foldl_cons]
    refine ⟨(List.prefix_append _ _).trans h1, by rw [h2]; simp; omega, fun i hi => ?_⟩
    cases i with
    | zero =>
      refine ⟨o, acc, rfl, (List.prefix_append _ _).trans h1, ?_⟩
      obtain ⟨t, ht⟩ := h1
      rw [← ht]
      simp
    | succ i =>
      obtain ⟨o', acc', j1, j2, j3⟩ := h3 i (by simpa using hi)
      refine ⟨o', acc', by simpa using j1, j2, ?_⟩
      rw [← j3]
      congr 1
      simp; omega
theorem bef_test {l : List Oper} {x i : Nat} (h : bef (befL l) x i = true) : ∃ o, l[i]? = some o ∧ ∃ e ∈ o.after.toList, hard e = true ∧ (x = e.on ∨ bef (befL l) x e.on = true) := by
  obtain ⟨h1, h2, h3⟩ := befL_go l []
  unfold bef at h ⊢
  have hlen : (befL l).length = l.length := by rw [befL, h2]; simp
  by_cases hi : i < l.length
  · obtain ⟨o, acc', j1, j2, j3⟩ := h3 i hi
    simp only [List.length_nil, Nat.zero_add] at j3
    have j3' : (befL l)[i]? = some (bitsOf acc' o) := j3
    rw [List.getD_eq_getElem?_getD, j3'] at h
    rcases fold_test acc' x o.after.toList 0 h with h4 | ⟨e, h4, h5, h6⟩
    · simp at h4
    · refine ⟨o, j1, e, h4, h5, h6.imp id fun h7 => ?_⟩
      obtain ⟨t, ht⟩ := j2
      have : befL l = acc' ++ t := ht.symm
      by_cases hlt : e.on < acc'.length
      · rw [List.getD_eq_getElem?_getD, this, List.getElem?_append_left hlt, ← List.getD_eq_getElem?_getD]; exact h7
      · rw [List.getD_eq_getElem?_getD, List.getElem?_eq_none (by omega)] at h7
        simp at h7
  · rw [List.getD_eq_getElem?_getD, List.getElem?_eq_none (by omega)] at h
    simp at h
theorem hard_binds {e : Edge} (h : hard e = true) (md : Region.Mode) : Region.binds md e = true := by
  unfold hard Region.binds at h
  unfold Region.binds
  split <;> simp_all
theorem countP_turn {α : Type} (p p' : α → Bool) (x : α) : ∀ (l : List α), l.Nodup → x ∈ l → p x = true → p' x = false → (∀ y, y ≠ x → p' y = p y) → l.countP p = l.countP p' + 1
  | [], _, h, _, _, _ => by simp at h
  | y :: l, hn, h, h1, h2, h3 => by
    rw [List.nodup_cons] at hn
    by_cases hy : y = x
    · subst hy
      rw [List.countP_cons_of_pos h1, List.countP_cons_of_neg (by simp [h2])]
      congr 1
      refine List.countP_congr fun z hz => ?_
      rw [h3 z (fun e => hn.1 (e ▸ hz))]
    · have hx : x ∈ l := by
        rcases List.mem_cons.1 h with e | e
        · exact absurd e.symm hy
        · exact e
      have := countP_turn p p' x l hn.2 hx h1 h2 h3
      rw [List.countP_cons, List.countP_cons, this, h3 y hy]
      omega
def openN (n : Nat) (listed : Array Bool) : Nat := (List.range n).countP fun j => !listed.getD j false
theorem openN_set {n : Nat} {listed : Array Bool} (hs : listed.size = n) {i : Nat} (hi : i < n) (h : listed.getD i true = false) : openN n listed = openN n (listed.setIfInBounds i true) + 1 := by
  have h1 : listed[i]? = some false := by
    rw [Array.getElem?_eq_getElem (by omega)]
    simp [hs, hi] at h
    simpa using h
  refine countP_turn _ _ i _ List.nodup_range (List.mem_range.2 hi) (by simp [Array.getD_eq_getD_getElem?, h1]) (by simp [Array.getD_eq_getD_getElem?, hs, hi]) fun y hy => ?_
  rw [getD_set_ne false (Ne.symm hy)]
theorem openN_zero {n : Nat} {listed : Array Bool} (h : openN n listed = 0) : ∀ j, j < n → listed.getD j false = true := by
  intro j hj
  unfold openN at h
  rw [List.countP_eq_zero] at h
  have := h j (List.mem_range.2 hj)
  simpa using this
section
variable {P : Program} {R : Ren}
theorem Rel.dom_lt {H : Heap} {w : World} (h : Rel R (H[·]?) w) {b : Nat} (d : R.Dom b) : b < H.length := by
  rcases d with ⟨v, L, hv⟩ | ⟨r, hr⟩
  · obtain ⟨l, ver, mn, c, t, hg, _⟩ := h.loc b v L hv
    exact (List.getElem?_eq_some_iff.1 hg).1
  · obtain ⟨es0, c0, es1, hg, _⟩ := h.mp b r hr
    exact (List.getElem?_eq_some_iff.1 hg).1
theorem Rel.pre {H H' : Heap} {w : World} (h : Rel R (H[·]?) w) (hp : H <+: H') : Rel R (H'[·]?) w :=
  h.congr fun b d => by
    obtain ⟨t, rfl⟩ := hp
    show (H ++ t)[b]? = H[b]?
    rw [List.getElem?_append_left (h.dom_lt d)]
theorem isAlloc_eq (op : EOp) : op.isAlloc = op.isNew := by cases op <;> rfl
theorem oper_new {ops : Array Oper} {o : Oper} {e : Env} {a : Act} (hE : VRL R e a.tmps.toList) {X : Ctx} {Hb : Heap} {bx : Box} {v : V} (hn : (cOper P ops o).op.isNew = true)
    (hw : (cOper P ops o).wanted e = true) (h : evalOp X e Hb (cOper P ops o).op = some (v, Hb ++ [bx])) {g : Heap} {w : World} (hrel : Rel R (g[·]?) w) (hg : g[Hb.length]? = some bx)
    (hd : ¬ R.Dom Hb.length) {next : Act → World → Prop} {Q : Exit → Act → World → Prop}
    (k : ∀ a' w' R', StepR R w R' w' → Rel R' (g[·]?) w' → VRL R' (e.put (cOper P ops o).dst v) a'.tmps.toList → a'.defers = a.defers → (∀ b, R'.Dom b → R.Dom b ∨ b = Hb.length) → next a' w') :
    if Region.wanted o (yielded ops a.tmps) then o.wp P a w next Q ∨ (o.asks P a w ∧ LetsOut Q) else next (a.put o.dst undef) w := by
  unfold cOper at hn hw h k
  split at hn
  · rename_i gd hgd
    simp only [hgd] at hw h k
    rw [guard_ok hgd hE o.dst ((cOp P o).getD .fail), if_pos hw]
    cases hc : cOp P o with
    | none => rw [hc] at hn; simp [EOp.isNew] at hn
    | some eo =>
      rw [hc] at hn h
      simp only [Option.getD_some] at hn h
      have hnone : (∀ v, R.loc Hb.length v = none) ∧ R.mp Hb.length = none := by
        refine ⟨fun v => ?_, ?_⟩
        · cases hv : R.loc Hb.length v with
          | none => rfl
          | some L => exact absurd (.inl ⟨v, L, hv⟩) hd
        · cases hv : R.mp Hb.length with
          | none => rfl
          | some r => exact absurd (.inr ⟨r, hv⟩) hd
      obtain ⟨_, h1⟩ := alloc_ok hc (by rw [isAlloc_eq]; exact hn) hE h
      have hm := h1 (g := (g[·]?)) (g' := (g[·]?)) (w := w) hrel hnone.1 hnone.2 (by
        intro bx' hb
        have : bx = bx' := by simpa using hb
        subst this
        exact hg) (fun _ _ _ => rfl)
      obtain ⟨v', w', R', r1, r2, r3, r4, r5⟩ := hm
      refine .inl ?_
      rcases r1 with hr | ⟨hr, rfl⟩
      · unfold Oper.wp
        rw [hr]
        exact k _ w' R' r2 r3 (put_ok (hE.mono r2.le) _ r4) (put_defers _ _ _) fun b hb => (r5 b hb).imp id (·.1)
      · unfold Oper.wp
        rw [hr]
        exact k _ w' R' r2 r3 (put_ok (hE.mono r2.le) _ r4) (put_defers _ _ _) fun b hb => (r5 b hb).imp id (·.1)
  · simp [EOp.isNew] at hn
section inv
variable (es : List EOper) (b : List Nat) (L : Lay) (e0 ef : Env) (H0 : Heap) (G : Nat → Heap) (A : Nat → Option (Nat × Box)) (R0 : Ren) (w0 : World) (d0 : List Deferred)
structure Inv (D : Nat → Prop) (k : Nat) (R : Ren) (a : Act) (w : World) : Prop where
  km : k ≤ L.m
  rel : Rel R ((G k)[·]?) w
  env : ∃ e : Env, VRL R e a.tmps.toList ∧ e.length = e0.length ∧ Views es e0 ef D (fun _ => True) e
  step : StepR R0 w0 R w
  hst : StepH R0 H0 R (G k)
  dfr : a.defers = d0
  wr : ∀ q, q < es.length → isWr es q = true → (D q ↔ L.lev.getD q 0 < k)
  closed : ∀ i j, D i → bef b j i = true → D j
  news : ∀ i, i < es.length → ∀ p, A i = some p → L.lev.getD i 0 ≤ k → H0.length ≤ p.1 ∧ p.1 < (G k).length ∧ (¬ D i → (G k)[p.1]? = some p.2 ∧ ¬ R.Dom p.1)
  dis : ∀ i j, i < es.length → j < es.length → i ≠ j → ∀ p p', A i = some p → A j = some p' → L.lev.getD i 0 ≤ k → L.lev.getD j 0 ≤ k → p.1 ≠ p'.1
end inv
theorem views_put {es : List EOper} {e0 ef e : Env} {D : Nat → Prop} {i : Nat} (hi : i < es.length) {v : V} (hl : ef.length = e0.length) (hle : e.length = e0.length)
    (hv : ∀ t, dstAt es i = some t → t < e0.length → ef.getD t V.undef = v) (h : Views es e0 ef D (fun _ => True) e) :
    Views es e0 ef (fun j => D j ∨ j = i) (fun _ => True) (e.put (dstAt es i) v) := by
  intro t _
  by_cases ht : dstAt es i = some t
  · refine ⟨fun _ => ?_, fun hno => absurd ht (hno i hi (.inr rfl))⟩
    rw [ht, put_getD_self]
    split
    · rename_i hlt
      rw [hv t ht (by omega)]
    · rename_i hlt
      rw [List.getD_eq_getElem?_getD, List.getElem?_eq_none (by omega)]; rfl
  · rw [put_getD_ne ht]
    refine ⟨?_, fun hno => (h t trivial).2 fun j hj hd => hno j hj (.inl hd)⟩
    rintro ⟨j, hj, hd, he⟩
    rcases hd with hd | rfl
    · exact (h t trivial).1 ⟨j, hj, hd, he⟩
    · exact absurd he ht
theorem inv_step {X : Ctx} (hX : ∀ f, CallOK P f (X f)) {ops : Array Oper} {es : List EOper} (hes : es = ops.toList.map (cOper P ops)) {b : List Nat} {L : Lay} (l : Laid es b L) {e0 ef : Env} {H0 Hf : Heap}
    {G : Nat → Heap} {v : Nat → V} {A : Nat → Option (Nat × Box)} (F : DrawFacts X es b L e0 ef H0 Hf G v A) {R0 : Ren} {w0 : World} {d0 : List Deferred}
    {D : Nat → Prop} {k : Nat} {a : Act} {w : World} (I : Inv es b L e0 ef H0 G A R0 w0 d0 D k R a w) {i : Nat} (hi : i < es.length) (hn : ¬ D i) (hd : ∀ j, bef b j i = true → D j)
    {Q : Exit → Act → World → Prop} {K : Act → World → Prop} (kK : ∀ a' w' k' R', Inv es b L e0 ef H0 G A R0 w0 d0 (fun j => D j ∨ j = i) k' R' a' w' → K a' w') : wpOp P ops Q i K a w := by
  have hio : i < ops.size := by rw [hes] at hi; simpa using hi
  have hoi : ops[i]? = some ops[i] := Array.getElem?_eq_getElem hio
  have hei : es.getD i default = cOper P ops ops[i] := by
    rw [hes, List.getD_eq_getElem?_getD, List.getElem?_map, Array.getElem?_toList, hoi]; rfl
  have hdst : dstAt es i = (cOper P ops ops[i]).dst := by rw [dstAt_getD hi, hei]
  obtain ⟨e, hE, hle, hV⟩ := I.env
  have hc : ∀ j, j < es.length → D j → bef b i j = false := by
    intro j _ hj
    cases hb : bef b i j with
    | false => rfl
    | true => exact absurd (I.closed j i hj hb) hn
  have fact := F.run i hi e (l.views hV hi hd hc hn)
  have hV' := views_put hi F.len hle (F.val i hi) hV
  have hlo : L.lev.getD i 0 ≤ k := by
    rcases l.lo i hi with h1 | ⟨q, h1, h2, h3, h4⟩
    · omega
    · have := (I.wr q h1 h2).1 (hd q h4); omega
  have hhi : k ≤ L.hi.getD i 0 := by
    have := I.km
    rcases l.hi i hi with h1 | ⟨q, h1, h2, h3, h4⟩
    · omega
    · rcases Nat.lt_or_ge (L.hi.getD i 0) k with h5 | h5
      · have h6 := (I.wr q h1 h2).2 (by omega)
        exact absurd (I.closed q i h6 h4) hn
      · exact h5
  have closed' : ∀ i' j, (D i' ∨ i' = i) → bef b j i' = true → (D j ∨ j = i) := by
    rintro i' j (h1 | rfl) h2
    · exact .inl (I.closed i' j h1 h2)
    · exact .inl (hd j h2)
  have wr' : isWr es i = false → ∀ q, q < es.length → isWr es q = true → ((D q ∨ q = i) ↔ L.lev.getD q 0 < k) := by
    intro hw q hq hqw
    rw [← I.wr q hq hqw]
    refine ⟨fun h => h.elim id fun h => ?_, .inl⟩
    rw [h, hw] at hqw; simp at hqw
  unfold wpOp
  rw [hoi]
  simp only
  rcases fact with ⟨hw, _, hv⟩ | ⟨hw, Hb, bx, hA, hnew, hwt, hv⟩ | ⟨hw, _, H1, hv, hpre, hna⟩
  · have h := hv k hlo hhi I.km
    rw [hei] at h
    have h' : evalOper X (cOper P ops ops[i]) e (G k) = some (e.put (cOper P ops ops[i]).dst (v i), G k) := by rw [evalOper_val, h]; rfl
    refine oper_ok hE hX h' I.rel fun a' w' R' r1 r2 r3 r4 r5 => kK a' w' k R' ?_
    have hdom : ∀ b, R'.Dom b → R.Dom b := by
      intro b hb
      rcases r5.dom b hb with h1 | h1
      · exact h1
      · have := r2.dom_lt hb; omega
    refine ⟨I.km, r2, ⟨_, r3, by rw [put_length]; exact hle, by rw [← hdst]; exact hV'⟩, I.step.trans r1, ⟨I.hst.len, fun b hb => I.hst.dom b (hdom b hb), I.hst.keep⟩, r4.trans I.dfr, wr' hw, closed', ?_, I.dis⟩
    intro j hj p hp hl
    obtain ⟨n1, n2, n3⟩ := I.news j hj p hp hl
    refine ⟨n1, n2, fun hnd => ?_⟩
    obtain ⟨n4, n5⟩ := n3 fun h => hnd (.inl h)
    exact ⟨n4, fun h => n5 (hdom _ h)⟩
  · rw [hei] at hnew hwt hv
    obtain ⟨n1, n2, n3⟩ := I.news i hi _ hA hlo
    obtain ⟨n4, n5⟩ := n3 hn
    refine oper_new hE hnew hwt hv I.rel n4 n5 fun a' w' R' r1 r2 r3 r4 r5 => kK a' w' k R' ?_
    refine ⟨I.km, r2, ⟨_, r3, by rw [put_length]; exact hle, by rw [← hdst]; exact hV'⟩, I.step.trans r1, ⟨I.hst.len, fun b hb => ?_, I.hst.keep⟩, r4.trans I.dfr, wr' hw, closed', ?_, I.dis⟩
    · rcases r5 b hb with h1 | rfl
      · exact I.hst.dom b h1
      · exact .inr n1
    · intro j hj p hp hl
      obtain ⟨m1, m2, m3⟩ := I.news j hj p hp hl
      refine ⟨m1, m2, fun hnd => ?_⟩
      obtain ⟨m4, m5⟩ := m3 fun h => hnd (.inl h)
      refine ⟨m4, fun h => ?_⟩
      rcases r5 _ h with h1 | h1
      · exact m5 h1
      · exact I.dis j i hj hi (fun he => hnd (.inr he)) p _ hp hA hl hlo h1
  · have hlev : L.lev.getD i 0 = k := by
      rcases Nat.lt_or_ge (L.lev.getD i 0) k with h1 | h1
      · exact absurd ((I.wr i hi hw).2 h1) hn
      · omega
    rw [hlev] at hv hpre hna
    rw [hei] at hv
    have h' : evalOper X (cOper P ops ops[i]) e (G k) = some (e.put (cOper P ops ops[i]).dst (v i), H1) := by rw [evalOper_val, hv]; rfl
    refine oper_ok hE hX h' I.rel fun a' w' R' r1 r2 r3 r4 r5 => kK a' w' (k + 1) R' ?_
    have l1 := r5.len
    have l2 := hpre.length_le
    have l3 := I.hst.len
    have hget : ∀ b, b < H1.length → (G (k + 1))[b]? = H1[b]? := by
      intro b hb
      obtain ⟨t, ht⟩ := hpre
      rw [← ht, List.getElem?_append_left hb]
    have hst' := I.hst.trans r5
    have hm := l.wl i hi hw
    refine ⟨by omega, r2.pre hpre, ⟨_, r3, by rw [put_length]; exact hle, by rw [← hdst]; exact hV'⟩, I.step.trans r1, ⟨by omega, hst'.dom, fun b hb hnd => ?_⟩, r4.trans I.dfr, ?_, closed', ?_, ?_⟩
    · rw [hget b (by omega)]; exact hst'.keep b hb hnd
    · intro q hq hqw
      constructor
      · rintro (h1 | rfl)
        · have := (I.wr q hq hqw).1 h1; omega
        · omega
      · intro h1
        rcases Nat.lt_or_ge (L.lev.getD q 0) k with h2 | h2
        · exact .inl ((I.wr q hq hqw).2 h2)
        · exact .inr (l.winj q i hq hi hqw hw (by omega))
    · intro j hj p hp hl
      rcases Nat.lt_or_ge k (L.lev.getD j 0) with h1 | h1
      · have hlk : L.lev.getD j 0 = k + 1 := by omega
        have h2 := hna j hj p hp hlk
        have h3 := F.at_ j hj p hp
        rw [hlk] at h3
        refine ⟨by omega, (List.getElem?_eq_some_iff.1 h3).1, fun _ => ⟨h3, fun hdm => ?_⟩⟩
        have := r2.dom_lt hdm
        omega
      · obtain ⟨m1, m2, m3⟩ := I.news j hj p hp h1
        refine ⟨m1, by omega, fun hnd => ?_⟩
        obtain ⟨m4, m5⟩ := m3 fun h => hnd (.inl h)
        refine ⟨?_, fun h => ?_⟩
        · rw [hget _ (by omega), r5.keep _ m2 m5]; exact m4
        · rcases r5.dom _ h with h2 | h2
          · exact m5 h2
          · omega
    · intro i1 j1 h1 h2 hne p p' hp hp' hl1 hl2
      rcases Nat.lt_or_ge k (L.lev.getD i1 0) with c1 | c1 <;> rcases Nat.lt_or_ge k (L.lev.getD j1 0) with c2 | c2
      · exact F.dis i1 j1 h1 h2 hne p p' hp hp' (by omega)
      · have := hna i1 h1 p hp (by omega)
        have := (I.news j1 h2 p' hp' c2).2.1
        omega
      · have := hna j1 h2 p' hp' (by omega)
        have := (I.news i1 h1 p hp c1).2.1
        omega
      · exact I.dis i1 j1 h1 h2 hne p p' hp hp' c1 c2
theorem all_done {md : Region.Mode} {ops : Array Oper} (ho : orderOk md ops = true) {listed : Array Bool} (hs : listed.size = ops.size) (hr : Region.ready md ops listed = []) : ∀ j, j < ops.size → listed.getD j false = true := by
  unfold orderOk at ho
  rw [List.all_eq_true] at ho
  have main : ∀ N j, j < ops.size → (Region.linearise md ops 0).idxOf j < N → listed.getD j false = true := by
    intro N
    induction N with
    | zero => intro j _ h; omega
    | succ N ih =>
      intro j hj hN
      cases hl : listed.getD j false with
      | true => rfl
      | false =>
        exfalso
        have hoj : ops[j]? = some ops[j] := Array.getElem?_eq_getElem hj
        have h1 := ho j (List.mem_range.2 hj)
        rw [hoj] at h1
        simp only [List.all_eq_true, Bool.or_eq_true, Bool.not_eq_true', Bool.and_eq_true, decide_eq_true_eq] at h1
        have : j ∈ Region.ready md ops listed := by
          rw [mem_ready]
          refine ⟨?_, ops[j], hoj, fun e he hb => ?_⟩
          · have hjs : j < listed.size := by omega
            simp only [Array.getD_eq_getD_getElem?, Array.getElem?_eq_getElem hjs, Option.getD_some] at hl ⊢
            exact hl
          · rcases h1 e (Array.mem_toList_iff.2 he) with h2 | ⟨h2, h3⟩
            · rw [hb] at h2; simp at h2
            · exact ih e.on h2 (by omega)
        rw [hr] at this
        cases this
  intro j hj
  exact main _ j hj (Nat.lt_succ_self _)
theorem inv_all {X : Ctx} (hX : ∀ f, CallOK P f (X f)) {ops : Array Oper} {es : List EOper} (hes : es = ops.toList.map (cOper P ops)) {L : Lay} (l : Laid es (befL ops.toList) L) {e0 ef : Env} {H0 Hf : Heap}
    {G : Nat → Heap} {v : Nat → V} {A : Nat → Option (Nat × Box)} (F : DrawFacts X es (befL ops.toList) L e0 ef H0 Hf G v A) {R0 : Ren} {w0 : World} {d0 : List Deferred} {md : Region.Mode} (ho : orderOk md ops = true)
    {Q : Exit → Act → World → Prop} (kQ : ∀ a' w' R', StepR R0 w0 R' w' → Rel R' (Hf[·]?) w' → VRL R' ef a'.tmps.toList → a'.defers = d0 → StepH R0 H0 R' Hf → Q .normal a' w') :
    ∀ (fuel : Nat) (listed : Array Bool) (k : Nat) (R : Ren) (a : Act) (w : World), listed.size = ops.size → openN ops.size listed = fuel →
      Inv es (befL ops.toList) L e0 ef H0 G A R0 w0 d0 (fun j => listed.getD j false = true) k R a w → wpAny P md ops Q fuel listed a w := by
  have hn : es.length = ops.size := by rw [hes]; simp
  have fin : ∀ (listed : Array Bool) (k : Nat) (R : Ren) (a : Act) (w : World), (∀ j, j < ops.size → listed.getD j false = true) →
      Inv es (befL ops.toList) L e0 ef H0 G A R0 w0 d0 (fun j => listed.getD j false = true) k R a w → Q .normal a w := by
    intro listed k R a w hall I
    have hk : k = L.m := by
      have := I.km
      rcases Nat.lt_or_ge k L.m with h1 | h1
      · obtain ⟨q, h2, h3, h4⟩ := l.ex k h1
        have := (I.wr q h2 h3).1 (hall q (by omega))
        omega
      · omega
    subst hk
    obtain ⟨e, hE, hle, hV⟩ := I.env
    have hrel := I.rel
    have hst := I.hst
    rw [F.fin] at hrel hst
    have hee : e = ef := by
      refine List.ext_getElem (by rw [hle, F.len]) fun t h1 h2 => ?_
      have hg : e.getD t V.undef = ef.getD t V.undef := by
        by_cases hj : ∃ j, j < es.length ∧ dstAt es j = some t
        · obtain ⟨j, h3, h4⟩ := hj
          exact (hV t trivial).1 ⟨j, h3, hall j (by omega), h4⟩
        · have hno : ∀ j, j < es.length → dstAt es j ≠ some t := fun j h3 h4 => hj ⟨j, h3, h4⟩
          rw [(hV t trivial).2 fun j h3 _ => hno j h3, F.rest t hno]
      simpa [List.getD_eq_getElem?_getD, List.getElem?_eq_getElem h1, List.getElem?_eq_getElem h2] using hg
    subst hee
    exact kQ a w R I.step hrel hE I.dfr hst
  intro fuel
  induction fuel with
  | zero =>
    intro listed k R a w hs hf I
    have hall := openN_zero hf
    refine ⟨?_, fin listed k R a w hall I⟩
    cases hr : Region.ready md ops listed with
    | nil => rfl
    | cons j rs =>
      exfalso
      have : j ∈ Region.ready md ops listed := by rw [hr]; exact List.mem_cons_self
      rw [mem_ready] at this
      obtain ⟨h1, o, h2, _⟩ := this
      have hj := (Array.getElem?_eq_some_iff.1 h2).1
      have h3 := hall j hj
      have hjs : j < listed.size := by omega
      simp only [Array.getD_eq_getD_getElem?, Array.getElem?_eq_getElem hjs, Option.getD_some] at h1 h3
      rw [h1] at h3; simp at h3
  | succ fuel ih =>
    intro listed k R a w hs hf I
    refine ⟨fun hr => fin listed k R a w (all_done ho hs hr) I, fun i hir => ?_⟩
    rw [mem_ready] at hir
    obtain ⟨h1, o, h2, h3⟩ := hir
    have hi := (Array.getElem?_eq_some_iff.1 h2).1
    have his : i < listed.size := by omega
    have hnD : ¬ (listed.getD i false = true) := by
      simp only [Array.getD_eq_getD_getElem?, Array.getElem?_eq_getElem his, Option.getD_some] at h1 ⊢
      rw [h1]; simp
    refine inv_step hX hes l F I (by omega) hnD (fun j hj => ?_) fun a' w' k' R' I' => ih _ k' R' a' w' (by simp [hs]) (by have := openN_set hs hi h1; omega) ?_
    · obtain ⟨o', h4, e, h5, h6, h7⟩ := bef_test hj
      rw [Array.getElem?_toList, h2] at h4
      simp only [Option.some.injEq] at h4
      subst h4
      have hon := h3 e (Array.mem_toList_iff.1 h5) (hard_binds h6 md)
      rcases h7 with rfl | h7
      · exact hon
      · exact I.closed e.on j hon h7
    · have : (fun j => (listed.setIfInBounds i true).getD j false = true) = fun j => listed.getD j false = true ∨ j = i := by
        funext j
        by_cases hj : i = j
        · subst hj
          simp [Array.getD_eq_getD_getElem?, his]
        · rw [getD_set_ne false hj]
          simp [Ne.symm hj]
      rw [this]
      exact I'
theorem draw_ok (hm : P.follows .mixedOrders = true) {X : Ctx} (hX : ∀ f, CallOK P f (X f)) : DrawOK P X := by
  intro id ops e e' H H' ex h R a w hE hrel Q k
  have h : evalCode X 0 (cRegion P ops true) e H = some (ex, e', H') := h
  unfold cRegion at h
  simp only [Bool.not_true, Bool.false_eq_true, if_false] at h
  split at h
  · rename_i hok
    simp only [evalCode] at h
    split at h
    · rename_i e1 H1 sn pd hev
      split at h
      · rename_i hdr
        simp only [Option.some.injEq, Prod.mk.injEq] at h
        obtain ⟨rfl, rfl, rfl⟩ := h
        simp only [drawOkP, Bool.and_eq_true, beq_iff_eq, decide_eq_true_eq] at hok
        obtain ⟨⟨⟨⟨o1, o2⟩, o3⟩, o4⟩, o5⟩ := hok
        have l := laid_of o1 o2 o3 o4
        obtain ⟨G, v, A, F⟩ := draw_facts l hev hdr
        have main : ∀ md, orderOk md ops = true → wpAny P md ops Q ops.size (Array.replicate ops.size false) a { w with drawn := w.drawn + 1 } := by
          intro md ho
          refine inv_all hX rfl l F (R0 := R) (w0 := w) (d0 := a.defers) ho (fun a' w' R' r1 r2 r3 r4 r5 => k a' w' R' r1 r2 r3 r4 r5) ops.size _ 0 R a _ (by simp) ?_ ?_
          · unfold openN
            rw [List.countP_eq_length.2, List.length_range]
            intro j hj
            have := List.mem_range.1 hj
            simp [Array.getD_eq_getD_getElem?, this]
          · have hno : ∀ j, ¬ ((Array.replicate ops.size false).getD j false = true) := by
              intro j
              by_cases hj : j < ops.size <;> simp [Array.getD_eq_getD_getElem?, hj]
            have hlen := F.start.length_le
            refine ⟨Nat.zero_le _, (hrel.pre F.start).drew _, ⟨e, hE, rfl, fun t _ => ⟨fun ⟨j, _, h2, _⟩ => absurd h2 (hno j), fun _ => rfl⟩⟩, StepR.drew R w _, ⟨hlen, fun _ h => .inl h, fun b hb _ => ?_⟩, rfl,
              fun q _ _ => ⟨fun h => absurd h (hno q), fun h => by omega⟩, fun i j h => absurd h (hno i), fun i hi p hp hl => ?_, fun i j hi hj hne p p' hp hp' h1 h2 => F.dis i j hi hj hne p p' hp hp' (by omega)⟩
            · obtain ⟨t, ht⟩ := F.start
              rw [← ht, List.getElem?_append_left hb]
            · have hl0 : (layOf (ops.toList.map (cOper P ops)) (befL ops.toList)).lev.getD i 0 = 0 := by omega
              have h1 := F.new0 i hi p hp hl0
              have h2 := F.at_ i hi p hp
              rw [hl0] at h2
              refine ⟨h1, (List.getElem?_eq_some_iff.1 h2).1, fun _ => ⟨h2, fun hd => ?_⟩⟩
              have := hrel.dom_lt hd
              omega
        exact wp_region_any hm (main .any o5)
      · simp at h
    · simp at h
  · simp [evalCode] at h
end
end Go.PE
namespace Go.PE
def funcE (P : Program) (f : FuncId) : Option EFunc := if callable P f then (P.funcs[f]?).bind (cFunc P) else none
def ctxE (fs : FuncId → Option EFunc) (S : Ctx) (rounds : Nat) : Nat → Ctx
  | 0 => fun _ _ _ => none
  | d + 1 => fun f args H =>
    match S f args H with
    | some r => some r
    | none =>
      match fs f with
      | some ef => evalFunc (ctxE fs S rounds d) rounds ef args H
      | none => none
section
variable {P : Program}
theorem callOK_none (f : FuncId) : CallOK P f fun _ _ => none := by
  intro R H H' w args args' v h
  simp at h
theorem ctxE_ok (hm : P.follows .mixedOrders = true) {fs : FuncId → Option EFunc} (hfs : ∀ f ef, fs f = some ef → funcE P f = some ef) {S : Ctx} (hS : ∀ f, CallOK P f (S f)) (rounds : Nat) : ∀ (d : Nat) (f : FuncId), CallOK P f (ctxE fs S rounds d f)
  | 0, f => callOK_none f
  | d + 1, f => by
    intro R H H' w args args' v h hargs hrel
    simp only [ctxE] at h
    split at h
    · rename_i r hr
      simp only [Option.some.injEq] at h; subst h
      exact hS f R H H' w args args' v hr hargs hrel
    · split at h
      · rename_i ef hef
        have h1 := hfs f ef hef
        unfold funcE at h1
        split at h1
        · rename_i hcall
          rw [Option.bind_eq_some_iff] at h1
          obtain ⟨fn, h2, h3⟩ := h1
          exact func_ok h2 h3 hcall (ctxE_ok hm hfs hS rounds d) (draw_ok hm (ctxE_ok hm hfs hS rounds d)) rounds R H H' w args args' v h hargs hrel
        · simp at h1
      · simp at h
mutual
def V.plain : V → Bool
  | .bool _ | .int _ _ | .str _ | .nilptr | .nils | .nilmap | .nilfn | .nilif => true
  | .fn _ a c => V.plainL a && V.plainL c
  | .iface _ v => V.plain v
  | .agg l | .tup l => V.plainL l
  | _ => false
def V.plainL : List V → Bool
  | [] => true
  | a :: l => V.plain a && V.plainL l
end
mutual
theorem VR.plain {R R' : Ren} : ∀ {v : V} {x : Value}, VR R v x → V.plain v = true → VR R' v x
  | _, _, .bool b, _ => .bool b
  | _, _, .int k n, _ => .int k n
  | _, _, .str s, _ => .str s
  | _, _, .nilptr, _ => .nilptr
  | _, _, .nils, _ => .nils
  | _, _, .nilmap, _ => .nilmap
  | _, _, .nilfn, _ => .nilfn
  | _, _, .nilif, _ => .nilif
  | _, _, .fn a b, h => by
    simp only [V.plain, Bool.and_eq_true] at h
    exact .fn (VRL.plain a h.1) (VRL.plain b h.2)
  | _, _, .iface a, h => by
    simp only [V.plain] at h
    exact .iface (VR.plain a h)
  | _, _, .agg a, h => by
    simp only [V.plain] at h
    exact .agg (VRL.plain a h)
  | _, _, .tup a, h => by
    simp only [V.plain] at h
    exact .tup (VRL.plain a h)
  | _, _, .ptr .., h | _, _, .pptr .., h | _, _, .slice .., h | _, _, .slice0 .., h | _, _, .emp0, h | _, _, .psl .., h | _, _, .map .., h => by simp [V.plain] at h
theorem VRL.plain {R R' : Ren} : ∀ {l : List V} {xs : List Value}, VRL R l xs → V.plainL l = true → VRL R' l xs
  | _, _, .nil, _ => .nil
  | _, _, .cons a b, h => by
    simp only [V.plainL, Bool.and_eq_true] at h
    exact .cons (VR.plain a h.1) (VRL.plain b h.2)
end
def Ren.empty : Ren := ⟨fun _ _ => none, fun _ => none, fun _ _ => none, fun _ => none, fun _ => none⟩
theorem Rel.empty (g : Get) (w : World) : Rel Ren.empty g w :=
  ⟨fun _ _ _ h => by simp [Ren.empty] at h, fun _ _ _ _ _ _ h => by simp [Ren.empty] at h, fun _ _ h => by simp [Ren.empty] at h, fun _ _ _ h => by simp [Ren.empty] at h,
    fun _ _ _ h => by simp [Ren.empty] at h, fun _ _ _ _ _ _ h => by simp [Ren.empty] at h⟩
theorem Rel.stood {R : Ren} {g : Get} {w w' : World} (h : Rel R g w) (hk : ∀ r, r < w.heap.size → w'.heap[r]? = w.heap[r]?) : Rel R g w' where
  loc b v L e := by
    obtain ⟨l, ver, mn, c, t, hg, ho, hk'⟩ := h.loc b v L e
    refine ⟨l, ver, mn, c, t, hg, ho, ⟨?_, hk'.n, hk'.lohi, hk'.hil, hk'.fit, hk'.vv, hk'.mv, hk'.top, hk'.cell⟩⟩
    rw [hk _ (h.lt e)]; exact hk'.blk
  inj := h.inj
  mp b r e := by
    obtain ⟨es, clock, es', hg, hm, hr⟩ := h.mp b r e
    exact ⟨es, clock, es', hg, by rw [hk _ (h.mlt e)]; exact hm, hr⟩
  mpinj := h.mpinj
  im r j x e := by
    obtain ⟨c, t, fz, y, h1, h2, h3⟩ := h.im r j x e
    exact ⟨c, t, fz, y, by rw [hk _ (h.ilt e)]; exact h1, h2, h3⟩
  imloc := h.imloc
def alone (F : List V → Heap → Option (V × Heap)) (args : List V) : Option V :=
  if V.plainL args then
    match F args [] with
    | some (v, _) => if V.plain v then some v else none
    | none => none
  else none
theorem alone_ok {f : FuncId} {F : List V → Heap → Option (V × Heap)} (h : CallOK P f F) : CallOK P f fun args H => (alone F args).map fun v => (v, H) := by
  intro R H H' w args args' v hv hargs hrel
  rw [Option.map_eq_some_iff] at hv
  obtain ⟨v1, h1, h2⟩ := hv
  simp only [Prod.mk.injEq] at h2
  obtain ⟨rfl, rfl⟩ := h2
  unfold alone at h1
  split at h1
  · rename_i hp
    split at h1
    · rename_i v2 H2 hf
      split at h1
      · rename_i hpv
        simp only [Option.some.injEq] at h1; subst h1
        obtain ⟨g1, g2⟩ := h Ren.empty [] H2 w args args' v2 hf (hargs.plain hp) (Rel.empty _ _)
        refine ⟨g1, g2.mono ?_⟩
        rintro e w' ⟨v', R', rfl, r2, r3, r4, r5⟩
        have hk : ∀ r, r < w.heap.size → w'.heap[r]? = w.heap[r]? := fun r hr => r2.keep r hr (fun _ _ _ h => by simp [Ren.empty] at h) (fun _ h => by simp [Ren.empty] at h)
        exact ⟨v', R, rfl, ⟨.refl R, r2.os, r2.tape, r2.output, r2.size, fun r hr _ _ => hk r hr, fun _ v L h => .inl ⟨v, L, h, rfl⟩, fun _ _ h => .inl h, fun _ _ _ h => .inl h⟩, hrel.stood hk, r4.plain hpv, .refl R H⟩
      · simp at h1
    · simp at h1
  · simp at h1
def tabE (T : List (List V × V)) (args : List V) : Option V := match T.find? (fun p => V.beqL p.1 args) with | some p => some p.2 | none => none
theorem tab_ok {f : FuncId} {F : List V → Heap → Option (V × Heap)} (h : CallOK P f F) {T : List (List V × V)} (hT : ∀ p ∈ T, alone F p.1 = some p.2) : CallOK P f fun args H => (tabE T args).map fun v => (v, H) := by
  intro R H H' w args args' v hv
  refine alone_ok h R H H' w args args' v ?_
  rw [Option.map_eq_some_iff] at hv ⊢
  obtain ⟨v1, h1, h2⟩ := hv
  refine ⟨v1, ?_, h2⟩
  unfold tabE at h1
  split at h1
  · rename_i p hp
    simp only [Option.some.injEq] at h1; subst h1
    have := List.find?_some hp
    have := V.beqL_eq _ _ this
    subst this
    exact hT p (List.mem_of_find?_eq_some hp)
  · simp at h1
end
end Go.PE
