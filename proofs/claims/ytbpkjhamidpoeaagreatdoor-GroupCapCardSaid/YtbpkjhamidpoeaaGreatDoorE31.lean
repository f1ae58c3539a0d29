/- Two runs of one function from two lists of arguments that differ in some slots: where all that looks at these slots answers alike, the runs answer alike. Nothing of a program stands here. -/
import Derived.Test.YtbpkjhamidpoeaaGreatDoorE24
namespace Go.PE

/-- The environments differ at most in the slots S; there they stand as M says. -/
structure Ag (S : Nat → Bool) (M : Nat → V → V → Prop) (e e' : Env) : Prop where
  len : e.length = e'.length
  same : ∀ n, S n = false → e.getD n V.undef = e'.getD n V.undef
  rel : ∀ n, S n = true → M n (e.getD n V.undef) (e'.getD n V.undef)

section
variable {S : Nat → Bool} {M : Nat → V → V → Prop} {X : Ctx} {ok : EOp → Bool} {mv : Nat → Nat → Bool}

def dstOk (S : Nat → Bool) : Option Nat → Bool
  | none => true
  | some k => !S k

def gdOk (S : Nat → Bool) : Option (Nat × Bool) → Bool
  | none => true
  | some p => !S p.1

def opdOk (S : Nat → Bool) : Opd → Bool
  | .t n => !S n
  | .c _ => true

/-- A slot's value goes to a slot of its kind. -/
def moveOk (mv : Nat → Nat → Bool) (o : EOper) : Bool :=
  match o with
  | ⟨some j, .move (.t i), none⟩ => mv i j
  | _ => false

def drOk (S : Nat → Bool) (ok : EOp → Bool) (o : EOper) : Bool := (o.op.tms.all (fun n => !S n) || ok o.op) && dstOk S o.dst && gdOk S o.guard
def operOk (S : Nat → Bool) (ok : EOp → Bool) (mv : Nat → Nat → Bool) (o : EOper) : Bool := drOk S ok o || moveOk mv o

def codeOk (S : Nat → Bool) (ok : EOp → Bool) (mv : Nat → Nat → Bool) : ECode → Bool
  | .skip => true
  | .ops l => l.all (operOk S ok mv)
  | .draw l => l.all fun p => drOk S ok p.1
  | .seq a b => codeOk S ok mv a && codeOk S ok mv b
  | .cond c a b => opdOk S c && codeOk S ok mv a && codeOk S ok mv b
  | .block _ c => codeOk S ok mv c
  | .loop c => codeOk S ok mv c
  | .exit _ => true
  | .ret => true
  | .fail => true

def resOk (S : Nat → Bool) : ERes → Bool
  | .tmp t => !S t
  | .cell a _ _ => !S a

theorem Ag.put {e e' : Env} (h : Ag S M e e') {dst : Option Nat} (hd : dstOk S dst = true) (v : V) : Ag S M (e.put dst v) (e'.put dst v) := by
  cases dst with
  | none => exact h
  | some k =>
    simp only [dstOk, Bool.not_eq_true'] at hd
    have g : ∀ (l : Env) (n : Nat), (l.set k v).getD n V.undef = if n = k ∧ k < l.length then v else l.getD n V.undef := by
      intro l n
      rw [List.getD_eq_getElem?_getD, List.getElem?_set]
      by_cases c : k = n
      · subst c
        by_cases c2 : k < l.length
        · simp [c2]
        · simp [c2]
      · rw [if_neg c, if_neg (fun c2 => c c2.1.symm), List.getD_eq_getElem?_getD]
    refine ⟨by simp [Env.put, h.len], fun n hn => ?_, fun n hn => ?_⟩
    · show (e.set k v).getD n V.undef = (e'.set k v).getD n V.undef
      rw [g, g, h.len, h.same n hn]
    · show M n ((e.set k v).getD n V.undef) ((e'.set k v).getD n V.undef)
      have : n ≠ k := fun c => by subst c; rw [hn] at hd; simp at hd
      rw [g, g, if_neg (fun c => this c.1), if_neg (fun c => this c.1)]
      exact h.rel n hn

theorem ag_opd {e e' : Env} (h : Ag S M e e') {x : Opd} (hx : opdOk S x = true) : x.ev e = x.ev e' := by
  cases x with
  | c v => rfl
  | t n => exact h.same n (by simpa [opdOk] using hx)

theorem ag_op (hok : ∀ op, ok op = true → ∀ e e' H, Ag S M e e' → evalOp X e H op = evalOp X e' H op) {e e' : Env} (h : Ag S M e e') {op : EOp} (ho : (op.tms.all (fun n => !S n) || ok op) = true) (H : Heap) :
    evalOp X e H op = evalOp X e' H op := by
  rw [Bool.or_eq_true] at ho
  rcases ho with ho | ho
  · refine evalOp_congr fun t ht => h.same t ?_
    have := List.all_eq_true.1 ho t ht
    simpa using this
  · exact hok op ho e e' H h

inductive AgO (S : Nat → Bool) (M : Nat → V → V → Prop) {α : Type} : Option (α × Env × Heap) → Option (α × Env × Heap) → Prop
  | none : AgO S M none none
  | some {x : α} {e e' : Env} {H : Heap} : Ag S M e e' → AgO S M (some (x, e, H)) (some (x, e', H))

inductive AgE (S : Nat → Bool) (M : Nat → V → V → Prop) : Option (Env × Heap) → Option (Env × Heap) → Prop
  | none : AgE S M none none
  | some {e e' : Env} {H : Heap} : Ag S M e e' → AgE S M (some (e, H)) (some (e', H))

theorem ag_wanted {e e' : Env} (h : Ag S M e e') {o : EOper} (hg : gdOk S o.guard = true) : o.wanted e = o.wanted e' := by
  obtain ⟨d, op, g⟩ := o
  cases g with
  | none => rfl
  | some p =>
    simp only [EOper.wanted]
    rw [h.same p.1 (by simpa [gdOk] using hg)]

theorem Ag.putRel {e e' : Env} (h : Ag S M e e') {k : Nat} (hk : S k = true) {v v' : V} (hv : M k v v') : Ag S M (e.put (some k) v) (e'.put (some k) v') := by
  have g : ∀ (l : Env) (n : Nat) (v : V), (l.set k v).getD n V.undef = if n = k ∧ k < l.length then v else l.getD n V.undef := by
    intro l n v
    rw [List.getD_eq_getElem?_getD, List.getElem?_set]
    by_cases c : k = n
    · subst c
      by_cases c2 : k < l.length
      · simp [c2]
      · simp [c2]
    · rw [if_neg c, if_neg (fun c2 => c c2.1.symm), List.getD_eq_getElem?_getD]
  refine ⟨by simp [Env.put, h.len], fun n hn => ?_, fun n hn => ?_⟩
  · show (e.set k v).getD n V.undef = (e'.set k v').getD n V.undef
    have : n ≠ k := fun c => by subst c; rw [hk] at hn; simp at hn
    rw [g, g, if_neg (fun c => this c.1), if_neg (fun c => this c.1)]
    exact h.same n hn
  · show M n ((e.set k v).getD n V.undef) ((e'.set k v').getD n V.undef)
    rw [g, g, h.len]
    by_cases c : n = k ∧ k < e'.length
    · rw [if_pos c, if_pos c, c.1]; exact hv
    · rw [if_neg c, if_neg c]; exact h.rel n hn

theorem ag_dr (hok : ∀ op, ok op = true → ∀ e e' H, Ag S M e e' → evalOp X e H op = evalOp X e' H op) {o : EOper} (ho : drOk S ok o = true) {e e' : Env} (h : Ag S M e e') (H : Heap) :
    AgE S M (evalOper X o e H) (evalOper X o e' H) := by
  simp only [drOk, Bool.and_eq_true] at ho
  obtain ⟨⟨h1, h2⟩, h3⟩ := ho
  unfold evalOper
  rw [ag_wanted h h3, ag_op hok h h1 H]
  split
  · cases evalOp X e' H o.op with
    | none => exact .none
    | some p => exact .some (h.put h2 _)
  · exact .some (h.put h2 _)

theorem ag_oper (hok : ∀ op, ok op = true → ∀ e e' H, Ag S M e e' → evalOp X e H op = evalOp X e' H op) (hmv : ∀ i j, mv i j = true → S i = true ∧ S j = true ∧ ∀ v v', M i v v' → M j v v')
    {o : EOper} (ho : operOk S ok mv o = true) {e e' : Env} (h : Ag S M e e') (H : Heap) : AgE S M (evalOper X o e H) (evalOper X o e' H) := by
  unfold operOk at ho
  rw [Bool.or_eq_true] at ho
  rcases ho with ho | ho
  · exact ag_dr hok ho h H
  · unfold moveOk at ho
    split at ho
    · rename_i j i
      obtain ⟨h1, h2, h3⟩ := hmv i j ho
      exact .some (h.putRel h2 (h3 _ _ (h.rel i h1)))
    · simp at ho

theorem ag_ops (hok : ∀ op, ok op = true → ∀ e e' H, Ag S M e e' → evalOp X e H op = evalOp X e' H op) (hmv : ∀ i j, mv i j = true → S i = true ∧ S j = true ∧ ∀ v v', M i v v' → M j v v') : ∀ (l : List EOper), l.all (operOk S ok mv) = true → ∀ {e e' : Env}, Ag S M e e' → ∀ (H : Heap),
    AgE S M (evalOps X l e H) (evalOps X l e' H)
  | [], _, _, _, h, H => .some h
  | o :: l, ho, e, e', h, H => by
    simp only [List.all_cons, Bool.and_eq_true] at ho
    simp only [evalOps]
    have hr := ag_oper hok hmv ho.1 h H
    generalize hr1 : evalOper X o e H = r1 at hr
    generalize hr2 : evalOper X o e' H = r2 at hr
    cases hr with
    | none => exact .none
    | some h2 =>
      simp only [Option.bind_some]
      exact ag_ops hok hmv l ho.2 h2 _

inductive PdAg (S : Nat → Bool) (M : Nat → V → V → Prop) (ok : EOp → Bool) : List (Env × EOp × V × Nat × Nat) → List (Env × EOp × V × Nat × Nat) → Prop
  | nil : PdAg S M ok [] []
  | cons {e e' : Env} {op : EOp} {x : V × Nat × Nat} {l l'} : Ag S M e e' → (op.tms.all (fun n => !S n) || ok op) = true → PdAg S M ok l l' → PdAg S M ok ((e, op, x) :: l) ((e', op, x) :: l')

theorem ag_drawOk (hok : ∀ op, ok op = true → ∀ e e' H, Ag S M e e' → evalOp X e H op = evalOp X e' H op) (sn : List Heap) : ∀ {p p' : List (Env × EOp × V × Nat × Nat)}, PdAg S M ok p p' → drawOk X sn p = drawOk X sn p'
  | _, _, .nil => rfl
  | _, _, .cons (x := x) h ho k => by
    obtain ⟨v, lo, hi⟩ := x
    simp only [drawOk, List.all_cons]
    have hk := ag_drawOk hok sn k
    simp only [drawOk] at hk
    rw [hk]
    congr 1
    unfold sameRead
    congr 1
    funext H
    rw [ag_op hok h ho H]

inductive AgD (S : Nat → Bool) (M : Nat → V → V → Prop) (ok : EOp → Bool) : Option (Env × Heap × List Heap × List (Env × EOp × V × Nat × Nat)) → Option (Env × Heap × List Heap × List (Env × EOp × V × Nat × Nat)) → Prop
  | none : AgD S M ok none none
  | some {e e' : Env} {H : Heap} {sn : List Heap} {p p' : List (Env × EOp × V × Nat × Nat)} : Ag S M e e' → PdAg S M ok p p' → AgD S M ok (some (e, H, sn, p)) (some (e', H, sn, p'))

theorem ag_draw (hok : ∀ op, ok op = true → ∀ e e' H, Ag S M e e' → evalOp X e H op = evalOp X e' H op) : ∀ (l : List (EOper × DK)), (l.all fun p => drOk S ok p.1) = true → ∀ {e e' : Env}, Ag S M e e' → ∀ (H : Heap) (sn : List Heap)
    {p p' : List (Env × EOp × V × Nat × Nat)}, PdAg S M ok p p' → AgD S M ok (evalDraw X l e H sn p) (evalDraw X l e' H sn p')
  | [], _, _, _, h, H, sn, _, _, hp => .some h hp
  | (o, k) :: l, ho, e, e', h, H, sn, p, p', hp => by
    simp only [List.all_cons, Bool.and_eq_true] at ho
    cases k with
    | N =>
      simp only [evalDraw]
      have hr := ag_dr hok ho.1 h H
      generalize hr1 : evalOper X o e H = r1 at hr
      generalize hr2 : evalOper X o e' H = r2 at hr
      cases hr with
      | none => exact .none
      | some h2 =>
        simp only [Option.bind_some]
        exact ag_draw hok l ho.2 h2 _ _ hp
    | W =>
      simp only [evalDraw]
      have hr := ag_dr hok ho.1 h H
      generalize hr1 : evalOper X o e H = r1 at hr
      generalize hr2 : evalOper X o e' H = r2 at hr
      cases hr with
      | none => exact .none
      | some h2 =>
        simp only [Option.bind_some]
        exact ag_draw hok l ho.2 h2 _ _ hp
    | R lo hi =>
      have ho1 := ho.1
      simp only [drOk, Bool.and_eq_true] at ho1
      obtain ⟨⟨h1, h2⟩, h3⟩ := ho1
      simp only [evalDraw]
      rw [ag_wanted h h3, ag_op hok h h1 H]
      split
      · cases evalOp X e' H o.op with
        | none => exact .none
        | some r =>
          simp only [Option.bind_some]
          refine ag_draw hok l ho.2 (h.put h2 _) _ _ ?_
          split
          · exact hp
          · exact .cons h h1 hp
      · exact ag_draw hok l ho.2 (h.put h2 _) _ _ hp

theorem ag_loop {f : Env → Heap → Option (Ex × Env × Heap)} (hf : ∀ e e' H, Ag S M e e' → AgO S M (f e H) (f e' H)) : ∀ (n : Nat) (e e' : Env) (H : Heap), Ag S M e e' → AgO S M (loopE f n e H) (loopE f n e' H)
  | 0, _, _, _, _ => .none
  | n + 1, e, e', H, h => by
    simp only [loopE]
    have hr := hf e e' H h
    generalize hr1 : f e H = r1 at hr
    generalize hr2 : f e' H = r2 at hr
    cases hr with
    | none => exact .none
    | some h2 =>
      rename_i x e1 e1' H1
      cases x with
      | normal => exact ag_loop hf n _ _ _ h2
      | exit id => exact .some h2
      | ret => exact .some h2

theorem ag_code (hok : ∀ op, ok op = true → ∀ e e' H, Ag S M e e' → evalOp X e H op = evalOp X e' H op) (hmv : ∀ i j, mv i j = true → S i = true ∧ S j = true ∧ ∀ v v', M i v v' → M j v v') (fuel : Nat) : ∀ (c : ECode), codeOk S ok mv c = true → ∀ (e e' : Env) (H : Heap), Ag S M e e' →
    AgO S M (evalCode X fuel c e H) (evalCode X fuel c e' H)
  | .skip, _, _, _, _, h => .some h
  | .ops l, hc, e, e', H, h => by
    simp only [evalCode]
    have hr := ag_ops hok hmv l hc h H
    generalize hr1 : evalOps X l e H = r1 at hr
    generalize hr2 : evalOps X l e' H = r2 at hr
    cases hr with
    | none => exact .none
    | some h2 => exact .some h2
  | .draw l, hc, e, e', H, h => by
    simp only [evalCode]
    have hr := ag_draw hok l hc h H [] (p := []) (p' := []) .nil
    generalize hr1 : evalDraw X l e H [] [] = r1 at hr
    generalize hr2 : evalDraw X l e' H [] [] = r2 at hr
    cases hr with
    | none => exact .none
    | some h2 hp =>
      simp only
      rw [ag_drawOk hok _ hp]
      split
      · exact .some h2
      · exact .none
  | .seq a b, hc, e, e', H, h => by
    simp only [codeOk, Bool.and_eq_true] at hc
    simp only [evalCode]
    have hr := ag_code hok hmv fuel a hc.1 e e' H h
    generalize hr1 : evalCode X fuel a e H = r1 at hr
    generalize hr2 : evalCode X fuel a e' H = r2 at hr
    cases hr with
    | none => exact .none
    | some h2 =>
      rename_i x e1 e1' H1
      cases x with
      | normal => exact ag_code hok hmv fuel b hc.2 _ _ _ h2
      | exit id => exact .some h2
      | ret => exact .some h2
  | .cond c a b, hc, e, e', H, h => by
    simp only [codeOk, Bool.and_eq_true] at hc
    simp only [evalCode]
    rw [ag_opd h hc.1.1]
    split
    · exact ag_code hok hmv fuel a hc.1.2 e e' H h
    · exact ag_code hok hmv fuel b hc.2 e e' H h
    · exact .none
  | .block id c, hc, e, e', H, h => by
    simp only [evalCode]
    have hr := ag_code hok hmv fuel c hc e e' H h
    generalize hr1 : evalCode X fuel c e H = r1 at hr
    generalize hr2 : evalCode X fuel c e' H = r2 at hr
    cases hr with
    | none => exact .none
    | some h2 =>
      rename_i x e1 e1' H1
      cases x with
      | normal => exact .some h2
      | exit id => exact .some h2
      | ret => exact .some h2
  | .loop c, hc, e, e', H, h => ag_loop (ag_code hok hmv fuel c hc) fuel e e' H h
  | .exit id, _, _, _, _, h => .some h
  | .ret, _, _, _, _, h => .some h
  | .fail, _, _, _, _, _ => .none

theorem ag_res {e e' : Env} (h : Ag S M e e') (H : Heap) {rs : List ERes} (hr : rs.all (resOk S) = true) : resultsE rs e H = resultsE rs e' H := by
  have : rs.mapM (evalRes e H) = rs.mapM (evalRes e' H) := by
    induction rs with
    | nil => rfl
    | cons r rs ih =>
      simp only [List.all_cons, Bool.and_eq_true] at hr
      rw [List.mapM_cons, List.mapM_cons, ih hr.2]
      congr 1
      cases r with
      | tmp t => simp only [evalRes]; rw [h.same t (by simpa [resOk] using hr.1)]
      | cell a g n => simp only [evalRes]; rw [h.same a (by simpa [resOk] using hr.1)]
  unfold resultsE
  rw [this]

/-- THE TWO RUNS ANSWER ALIKE. -/
theorem ag_func (hok : ∀ op, ok op = true → ∀ e e' H, Ag S M e e' → evalOp X e H op = evalOp X e' H op) (hmv : ∀ i j, mv i j = true → S i = true ∧ S j = true ∧ ∀ v v', M i v v' → M j v v') (fuel : Nat) {f : EFunc} (hc : codeOk S ok mv f.body = true) (hr : f.results.all (resOk S) = true)
    {args args' : List V} (hl : args.length = args'.length) (h : ∀ n, Ag S M (args ++ List.replicate n V.undef) (args' ++ List.replicate n V.undef)) (H : Heap) : evalFunc X fuel f args H = evalFunc X fuel f args' H := by
  unfold evalFunc
  rw [hl]
  split
  · have hk := ag_code hok hmv fuel f.body hc _ _ H (h (f.ntmps - args'.length))
    generalize hr1 : evalCode X fuel f.body (args ++ List.replicate (f.ntmps - args'.length) V.undef) H = r1 at hk
    generalize hr2 : evalCode X fuel f.body (args' ++ List.replicate (f.ntmps - args'.length) V.undef) H = r2 at hk
    cases hk with
    | none => rfl
    | some h2 =>
      rename_i x e1 e1' H1
      cases x with
      | normal => simp only; rw [ag_res h2 _ hr]
      | exit id => rfl
      | ret => simp only; rw [ag_res h2 _ hr]
  · rfl

end

/-! ### a number that is looked at through its remainder -/

/-- The values of a slot that is looked at through its remainder by 'mo n'. -/
def modM (mo : Nat → Option Int) (n : Nat) (v v' : V) : Prop := v = v' ∨ ∃ a a' m : Int, mo n = some m ∧ v = .int .u8 a ∧ v' = .int .u8 a' ∧ a.tmod m = a'.tmod m

def moS (mo : Nat → Option Int) (n : Nat) : Bool := (mo n).isSome
def moMv (mo : Nat → Option Int) (i j : Nat) : Bool := (mo i).isSome && decide (mo i = mo j)

theorem moMv_ok {mo : Nat → Option Int} (i j : Nat) (h : moMv mo i j = true) : moS mo i = true ∧ moS mo j = true ∧ ∀ v v', modM mo i v v' → modM mo j v v' := by
  simp only [moMv, Bool.and_eq_true, decide_eq_true_eq] at h
  obtain ⟨h1, h2⟩ := h
  refine ⟨h1, by unfold moS; rw [← h2]; exact h1, ?_⟩
  rintro v v' (rfl | ⟨a, a', m, e1, e2, e3, e4⟩)
  · exact .inl rfl
  · exact .inr ⟨a, a', m, h2 ▸ e1, e2, e3, e4⟩

/-- 'x % m', x the slot's number; or a call that is known to look through the remainder. -/
def remOp (mo : Nat → Option Int) (calls : List (FuncId × Int)) : EOp → Bool
  | .bin .rem (.t n) (.c (.int .u8 k)) => decide (mo n = some k)
  | .call f [.t a, .t b] => (calls.any fun p => Nat.beq p.1 f && decide (mo a = some p.2)) && !moS mo b
  | _ => false

theorem remOp_ok {mo : Nat → Option Int} {calls : List (FuncId × Int)} {X : Ctx}
    (hX : ∀ p ∈ calls, ∀ (a a' : Int) (y : V) (H : Heap), a.tmod p.2 = a'.tmod p.2 → X p.1 [.int .u8 a, y] H = X p.1 [.int .u8 a', y] H) :
    ∀ op, remOp mo calls op = true → ∀ e e' H, Ag (moS mo) (modM mo) e e' → evalOp X e H op = evalOp X e' H op := by
  intro op ho e e' H h
  unfold remOp at ho
  split at ho
  · rename_i n k
    simp only [decide_eq_true_eq] at ho
    rcases h.rel n (by unfold moS; rw [ho]; rfl) with h1 | ⟨a, a', m, e1, e2, e3, e4⟩
    · simp only [evalOp, Opd.ev]; rw [h1]
    · rw [ho] at e1
      simp only [Option.some.injEq] at e1
      subst e1
      simp only [evalOp, Opd.ev]
      rw [e2, e3]
      have hb : ∀ x : Int, binE .rem (.int .u8 x) (.int .u8 k) = if k = 0 then none else some (.int .u8 (x.tmod k)) := fun x => by simp [binE, arithE]
      rw [hb, hb, e4]
  · rename_i f a b
    simp only [Bool.and_eq_true, List.any_eq_true, decide_eq_true_eq, Bool.not_eq_true'] at ho
    obtain ⟨⟨p, hp, hf, hm⟩, hb⟩ := ho
    have hf := Nat.eq_of_beq_eq_true hf
    subst hf
    have h2 := h.same b hb
    rcases h.rel a (by unfold moS; rw [hm]; rfl) with h1 | ⟨x, x', m, e1, e2, e3, e4⟩
    · simp only [evalOp, List.map_cons, List.map_nil, Opd.ev]; rw [h1, h2]
    · rw [hm] at e1
      simp only [Option.some.injEq] at e1
      subst e1
      simp only [evalOp, List.map_cons, List.map_nil, Opd.ev]
      rw [e2, e3, h2]
      exact hX p hp x x' _ H e4
  · simp at ho

end Go.PE
