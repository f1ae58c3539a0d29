/- Plain facts of the evaluator: what an operation looks at, what it leaves alone; what the run of a region that draws its order gives. Nothing of a program stands here. -/
import Derived.Test.YtbpkjhamidpoeaaGreatDoorE1
namespace Go.PE

mutual
theorem V.beq_eq : ∀ (a b : V), V.beq a b = true → a = b
  | .bool x, b, h => by cases b <;> simp_all [V.beq]
  | .int k n, b, h => by cases b <;> simp_all [V.beq]
  | .str s, b, h => by
    cases b <;> simp only [V.beq, Bool.false_eq_true] at h
    rename_i s'
    obtain ⟨⟨l⟩⟩ := s
    obtain ⟨⟨l'⟩⟩ := s'
    simp at h
    subst h; rfl
  | .ptr x v o e, b, h => by cases b <;> simp_all [V.beq]
  | .nilptr, b, h => by cases b <;> simp_all [V.beq]
  | .pptr l, b, h => by
    cases b <;> simp only [V.beq, Bool.false_eq_true] at h
    rw [V.beqL_eq l _ h]
  | .slice x v o n e c, b, h => by cases b <;> simp_all [V.beq]
  | .nils, b, h => by cases b <;> simp_all [V.beq]
  | .emp0, b, h => by cases b <;> simp_all [V.beq]
  | .psl n l, b, h => by
    cases b <;> simp only [V.beq, Bool.false_eq_true, Bool.and_eq_true, beq_iff_eq] at h
    rw [h.1, V.beqL_eq l _ h.2]
  | .map x, b, h => by cases b <;> simp_all [V.beq]
  | .nilmap, b, h => by cases b <;> simp_all [V.beq]
  | .fn f a c, b, h => by
    cases b <;> simp only [V.beq, Bool.false_eq_true, Bool.and_eq_true, beq_iff_eq] at h
    rw [h.1.1, V.beqL_eq a _ h.1.2, V.beqL_eq c _ h.2]
  | .nilfn, b, h => by cases b <;> simp_all [V.beq]
  | .iface t v, b, h => by
    cases b <;> simp only [V.beq, Bool.false_eq_true, Bool.and_eq_true, beq_iff_eq] at h
    rw [h.1, V.beq_eq v _ h.2]
  | .nilif, b, h => by cases b <;> simp_all [V.beq]
  | .agg l, b, h => by
    cases b <;> simp only [V.beq, Bool.false_eq_true] at h
    rw [V.beqL_eq l _ h]
  | .tup l, b, h => by
    cases b <;> simp only [V.beq, Bool.false_eq_true] at h
    rw [V.beqL_eq l _ h]
theorem V.beqL_eq : ∀ (l l' : List V), V.beqL l l' = true → l = l'
  | [], l', h => by cases l' <;> simp_all [V.beqL]
  | a :: l, l', h => by
    cases l' with
    | nil => simp [V.beqL] at h
    | cons b l' =>
      simp only [V.beqL, Bool.and_eq_true] at h
      rw [V.beq_eq a b h.1, V.beqL_eq l l' h.2]
end

def EOp.isNew : EOp → Bool
  | .new _ | .box .. | .buildSl .. | .mkMap | .mkSl .. => true
  | _ => false

def EOp.isWr : EOp → Bool
  | .store .. | .mapUpd .. | .append .. | .copy .. | .clear .. | .call .. | .callv .. => true
  | _ => false

def EOp.isRd : EOp → Bool
  | .load .. | .lookup .. | .toStr .. => true
  | _ => false

section
variable {X : Ctx}

theorem Opd.ev_congr {e e' : Env} {x : Opd} (h : ∀ t ∈ x.tm, e.getD t V.undef = e'.getD t V.undef) : x.ev e = x.ev e' := by
  cases x with
  | t n => exact h n (by simp [Opd.tm])
  | c v => rfl

theorem evs_congr {e e' : Env} : ∀ {l : List Opd}, (∀ t ∈ l.flatMap Opd.tm, e.getD t V.undef = e'.getD t V.undef) → l.map (Opd.ev e) = l.map (Opd.ev e')
  | [], _ => rfl
  | x :: l, h => by
    simp only [List.flatMap_cons, List.mem_append] at h
    rw [List.map_cons, List.map_cons, Opd.ev_congr fun t ht => h t (.inl ht), evs_congr fun t ht => h t (.inr ht)]

theorem evO_congr {e e' : Env} {x : Option Opd} (h : ∀ t ∈ tmO x, e.getD t V.undef = e'.getD t V.undef) : x.map (Opd.ev e) = x.map (Opd.ev e') := by
  cases x with
  | none => rfl
  | some x => simp only [Option.map_some]; rw [Opd.ev_congr (x := x) h]

theorem evP_congr {e e' : Env} : ∀ {l : List (Nat × Nat × Opd)}, (∀ t ∈ l.flatMap (fun p => p.2.2.tm), e.getD t V.undef = e'.getD t V.undef) →
    l.map (fun p => (p.1, p.2.1, p.2.2.ev e)) = l.map (fun p => (p.1, p.2.1, p.2.2.ev e'))
  | [], _ => rfl
  | x :: l, h => by
    simp only [List.flatMap_cons, List.mem_append] at h
    rw [List.map_cons, List.map_cons, Opd.ev_congr fun t ht => h t (.inl ht), evP_congr fun t ht => h t (.inr ht)]

theorem evalOp_congr {e e' : Env} {H : Heap} {op : EOp} (h : ∀ t ∈ op.tms, e.getD t V.undef = e'.getD t V.undef) : evalOp X e H op = evalOp X e' H op := by
  cases op <;> simp only [EOp.tms, List.mem_append] at h <;> simp only [evalOp]
  case pick c a b => rw [Opd.ev_congr (x := c) fun t ht => h t (.inl (.inl ht)), Opd.ev_congr (x := a) fun t ht => h t (.inl (.inr ht)), Opd.ev_congr (x := b) fun t ht => h t (.inr ht)]
  case build z ps => rw [evP_congr h]
  case buildSl es z len ps => rw [evP_congr h]
  case mkFn f a c => rw [evs_congr (l := a) fun t ht => h t (.inl ht), evs_congr (l := c) fun t ht => h t (.inr ht)]
  case subs x lo hi => rw [Opd.ev_congr (x := x) fun t ht => h t (.inl (.inl ht)), evO_congr (x := lo) fun t ht => h t (.inl (.inr ht)), evO_congr (x := hi) fun t ht => h t (.inr ht)]
  case slice es x lo hi => rw [Opd.ev_congr (x := x) fun t ht => h t (.inl (.inl ht)), evO_congr (x := lo) fun t ht => h t (.inl (.inr ht)), evO_congr (x := hi) fun t ht => h t (.inr ht)]
  case sliceArr len es x lo hi => rw [Opd.ev_congr (x := x) fun t ht => h t (.inl (.inl ht)), evO_congr (x := lo) fun t ht => h t (.inl (.inr ht)), evO_congr (x := hi) fun t ht => h t (.inr ht)]
  case mapUpd m k v => rw [Opd.ev_congr (x := m) fun t ht => h t (.inl (.inl ht)), Opd.ev_congr (x := k) fun t ht => h t (.inl (.inr ht)), Opd.ev_congr (x := v) fun t ht => h t (.inr ht)]
  case call f args => rw [evs_congr h]
  case callv f args => rw [Opd.ev_congr (x := f) fun t ht => h t (.inl ht), evs_congr (l := args) fun t ht => h t (.inr ht)]
  all_goals first
    | rfl
    | (rename_i x; rw [Opd.ev_congr (x := x) h]; done)
    | (rename_i x _; rw [Opd.ev_congr (x := x) h]; done)
    | (rename_i x y; rw [Opd.ev_congr (x := x) fun t ht => h t (.inl ht), Opd.ev_congr (x := y) fun t ht => h t (.inr ht)]; done)

/-- Operations that neither write nor read nor make memory. -/
theorem evalOp_plain {e : Env} {H H1 : Heap} {op : EOp} {v : V} (h : evalOp X e H op = some (v, H1)) (h1 : op.isWr = false) (h2 : op.isRd = false) (h3 : op.isNew = false) :
    H1 = H ∧ ∀ H', evalOp X e H' op = some (v, H') := by
  cases op <;> simp only [EOp.isWr, EOp.isRd, EOp.isNew, Bool.true_eq_false] at h1 h2 h3 <;> simp only [evalOp, pure1] at h ⊢
  all_goals first
    | (rw [Option.map_eq_some_iff] at h
       obtain ⟨x, hx, h⟩ := h
       simp only [Prod.mk.injEq] at h
       obtain ⟨rfl, rfl⟩ := h
       exact ⟨rfl, fun H' => by rw [hx]; rfl⟩)
    | (simp only [Option.some.injEq, Prod.mk.injEq] at h
       obtain ⟨rfl, rfl⟩ := h
       exact ⟨rfl, fun H' => rfl⟩)
    | (split at h
       all_goals first
         | (simp at h; done)
         | (simp only [Option.some.injEq, Prod.mk.injEq] at h
            obtain ⟨rfl, rfl⟩ := h
            exact ⟨rfl, fun H' => rfl⟩)
         | (simp only [Option.map_eq_some_iff, Prod.mk.injEq] at h
            obtain ⟨x, hx, rfl, rfl⟩ := h
            exact ⟨rfl, fun H' => by simp [hx]⟩))
    | (simp at h; done)

theorem readCells_pre {H H' : Heap} (hp : H <+: H') {b v off n : Nat} {cs : List V} (h : readCells H b v off n = some cs) : readCells H' b v off n = some cs := by
  obtain ⟨t, rfl⟩ := hp
  unfold readCells at h ⊢
  split at h
  · rename_i l ver mn hb
    have hb' : (H ++ t)[b]? = some (.cells l ver mn) := by
      rw [List.getElem?_append_left (List.getElem?_eq_some_iff.1 hb).1]; exact hb
    rw [hb']; exact h
  · simp at h

theorem firstE_pre {H H' : Heap} (hp : H <+: H') {es n : Nat} {x : V} {cs : List V} (h : firstE es n x H = some cs) : firstE es n x H' = some cs := by
  cases x <;> simp only [firstE] at h ⊢
  all_goals try exact h
  all_goals try (simp at h; done)
  split at h
  · rename_i hc
    rw [if_pos hc]
    exact readCells_pre hp h
  · simp at h

/-- Operations that read. -/
theorem evalOp_reads {e : Env} {H H1 : Heap} {op : EOp} {v : V} (h : evalOp X e H op = some (v, H1)) (h2 : op.isRd = true) :
    H1 = H ∧ ∀ H', H <+: H' → evalOp X e H' op = some (v, H') := by
  cases op <;> simp only [EOp.isRd, Bool.false_eq_true] at h2 <;> simp only [evalOp, pure1] at h ⊢
  case load agg n a =>
    rw [Option.map_eq_some_iff] at h
    obtain ⟨x, hx, h⟩ := h
    simp only [Prod.mk.injEq] at h
    obtain ⟨rfl, rfl⟩ := h
    refine ⟨rfl, fun H' hp => ?_⟩
    rw [Option.map_eq_some_iff]
    refine ⟨x, ?_, rfl⟩
    unfold loadE at hx ⊢
    split at hx
    · split at hx
      · rename_i hc
        rw [if_pos hc]
        rw [Option.bind_eq_some_iff] at hx ⊢
        obtain ⟨cs, h1, h2⟩ := hx
        exact ⟨cs, readCells_pre hp h1, h2⟩
      · simp at hx
    · exact hx
    · simp at hx
  case toStr x =>
    split at h
    · simp at h
    · rename_i hn hx
      split at h
      · rename_i cs hcs
        simp only [Option.map_eq_some_iff, Prod.mk.injEq] at h
        obtain ⟨y, hy, rfl, rfl⟩ := h
        refine ⟨rfl, fun H' hp => ?_⟩
        rw [firstE_pre hp hcs]
        simp [hy]
      · simp at h
    · simp at h
  case lookup zero ok m k =>
    rw [Option.map_eq_some_iff] at h
    obtain ⟨x, hx, h⟩ := h
    simp only [Prod.mk.injEq] at h
    obtain ⟨rfl, rfl⟩ := h
    refine ⟨rfl, fun H' hp => ?_⟩
    rw [Option.map_eq_some_iff]
    refine ⟨x, ?_, rfl⟩
    obtain ⟨t, rfl⟩ := hp
    unfold lookupE at hx ⊢
    split at hx
    · exact hx
    · split at hx
      · rename_i hb
        rw [List.getElem?_append_left (List.getElem?_eq_some_iff.1 hb).1, hb]; exact hx
      · simp at hx
    · simp at hx

/-- Operations that make memory. -/
theorem evalOp_new {e : Env} {H H1 : Heap} {op : EOp} {v : V} (h : evalOp X e H op = some (v, H1)) (h3 : op.isNew = true) :
    (H1 = H ∧ ∀ H', evalOp X e H' op = some (v, H')) ∨ ∃ bx, H1 = H ++ [bx] := by
  cases op <;> simp only [EOp.isNew, Bool.false_eq_true] at h3 <;> simp only [evalOp, newBox] at h ⊢
  case new cs =>
    split at h
    · simp only [Option.some.injEq, Prod.mk.injEq] at h; exact .inr ⟨_, h.2.symm⟩
    · simp at h
  case box n x =>
    split at h
    · simp only [Option.some.injEq, Prod.mk.injEq] at h; exact .inr ⟨_, h.2.symm⟩
    · simp at h
  case mkMap =>
    simp only [Option.some.injEq, Prod.mk.injEq] at h; exact .inr ⟨_, h.2.symm⟩
  case buildSl es z len ps =>
    split at h
    · rename_i hl
      simp only [Option.some.injEq, Prod.mk.injEq] at h
      obtain ⟨rfl, rfl⟩ := h
      exact .inl ⟨rfl, fun H' => by rw [if_pos hl]⟩
    · split at h
      · split at h
        · simp only [Option.some.injEq, Prod.mk.injEq] at h; exact .inr ⟨_, h.2.symm⟩
        · simp at h
      · simp at h
  case mkSl es bs z l c =>
    split at h
    · split at h
      · rename_i hc
        simp only [Option.some.injEq] at h
        split at h
        · rename_i hl
          simp only [Prod.mk.injEq] at h
          obtain ⟨rfl, rfl⟩ := h
          exact .inl ⟨rfl, fun H' => by rw [if_pos hc, if_pos hl]⟩
        · simp only [Prod.mk.injEq] at h; exact .inr ⟨_, h.2.symm⟩
      · simp at h
    · simp at h

end
end Go.PE
