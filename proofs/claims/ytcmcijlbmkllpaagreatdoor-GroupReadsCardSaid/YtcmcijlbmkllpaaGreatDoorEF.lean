/- Shortcuts, tables, alike runs, the call. Nothing of a program stands here. -/
import Derived.Test.YtcmcijlbmkllpaaGreatDoorEE
import Derived.Below
namespace Go.PE

/-- From arguments, a look into the heap, the heap's length: what comes back, and the change. -/
abbrev HeapS := FuncId → List V → (Nat → Option Box) → Nat → Option (V × Upd)

def heapE (G : HeapS) (f : FuncId) : List V → Heap → Option (V × Heap) := fun args H => (G f args (H[·]?) H.length).map (Upd.done H)

def shortE (T : FuncId → List V → Option V) (G : HeapS) : Ctx := fun f args H =>
  match T f args with
  | some v => some (v, H)
  | none => heapE G f args H

theorem shortE_ok {P : Program} {T : FuncId → List V → Option V} {G : HeapS} (hT : ∀ f, CallOK P f fun args H => (T f args).map fun v => (v, H)) (hG : ∀ f, CallOK P f (heapE G f)) (f : FuncId) : CallOK P f (shortE T G f) := by
  intro R H H' w args args' v h
  unfold shortE at h
  split at h
  · rename_i v1 hv
    refine hT f R H H' w args args' v ?_
    simp only
    rw [hv]; exact h
  · exact hG f R H H' w args args' v h

noncomputable def ctxH (fs : FuncId → Option EFunc) (T : FuncId → List V → Option V) (G : HeapS) (rounds : Nat) (d : Nat) : CtxK :=
  Nat.rec (motive := fun _ => CtxK) (fun _ _ _ => none)
    (fun _ ih f args H => Option.rec
      (Option.rec (Option.rec none (fun r => Option.rec none (fun r => r.run ih rounds args H) r) ((stages fs 10 1 0).get f))
        (fun p => Option.rec none (fun H' => some (p.1, H')) (p.2.onK H)) (G f args H.get H.n))
      (fun v => some (v, H)) (T f args)) d

/-- THE STAGED EVALUATOR WITH SUCH SHORTCUTS ANSWERS WHAT THE EVALUATOR ANSWERS. -/
theorem ctxH_sim {fs : FuncId → Option EFunc} {T : FuncId → List V → Option V} {G : HeapS} {rounds : Nat} : ∀ (d : Nat), Sim (ctxH fs T G rounds d) (ctxE fs (shortE T G) rounds d)
  | 0 => by
    intro f args H H' L v _ h
    have h : (none : Option (V × TH)) = some (v, H') := h
    simp at h
  | d + 1 => by
    intro f args H H' L v hH h
    have h : (Option.rec (motive := fun _ => Option (V × TH))
      (Option.rec (motive := fun _ => Option (V × TH))
        (Option.rec (motive := fun _ => Option (V × TH)) none (fun r => Option.rec (motive := fun _ => Option (V × TH)) none (fun r => r.run (ctxH fs T G rounds d) rounds args H) r) ((stages fs 10 1 0).get f))
        (fun p => Option.rec (motive := fun _ => Option (V × TH)) none (fun H' => some (p.1, H')) (p.2.onK H)) (G f args H.get H.n))
      (fun v => some (v, H)) (T f args)) = some (v, H') := h
    simp only [ctxE, shortE, heapE]
    cases hT : T f args with
    | some v1 =>
      rw [hT] at h
      have h : some (v1, H) = some (v, H') := h
      simp only [Option.some.injEq, Prod.mk.injEq] at h
      obtain ⟨rfl, rfl⟩ := h
      exact ⟨L, rfl, hH⟩
    | none =>
      rw [hT] at h
      rw [hH.got, ← hH.len] at h
      cases hG : G f args (L[·]?) L.length with
      | some p =>
        rw [hG] at h
        obtain ⟨H1, h1, h2⟩ := orec_some (f := fun H' => some (p.1, H')) h
        simp only [Option.some.injEq, Prod.mk.injEq] at h2
        obtain ⟨rfl, rfl⟩ := h2
        exact ⟨_, rfl, hH.on h1⟩
      | none =>
        rw [hG] at h
        obtain ⟨r0, hr0, h⟩ := orec_some h
        obtain ⟨r, hr, h⟩ := orec_some h
        have hr1 := stages_ok 10 1 0 f hr0
        rw [Nat.one_mul, Nat.add_zero] at hr1
        rw [hr1] at hr
        simp only [Option.map_none]
        cases hf : fs f with
        | none =>
          have hr : (Option.rec (motive := fun _ => Option RunF) none (fun ef => some (funcR ef)) (fs f)) = some r := hr
          rw [hf] at hr
          exact absurd (show (none : Option RunF) = some r from hr) (by simp)
        | some ef =>
          have hr : (Option.rec (motive := fun _ => Option RunF) none (fun ef => some (funcR ef)) (fs f)) = some r := hr
          rw [hf] at hr
          have hr : some (funcR ef) = some r := hr
          simp only [Option.some.injEq] at hr
          subst hr
          exact funcR_sim (ctxH_sim d) hH h

/-- What the staged evaluator answers from plain arguments in an empty heap, the calls return anywhere. -/
theorem alone_of_ctxH {fs : FuncId → Option EFunc} {T : FuncId → List V → Option V} {G : HeapS} {rounds d : Nat} {f : FuncId} {args : List V} {v : V}
    (h : (match ctxH fs T G rounds d f args ⟨.nil, 0⟩ with | some p => V.beq p.1 v | none => false) = true) (h1 : V.plainL args = true) (h2 : V.plain v = true) :
    alone (ctxE fs (shortE T G) rounds d f) args = some v := by
  split at h
  · rename_i p hp
    have hb := V.beq_eq _ _ h
    obtain ⟨L', h3, _⟩ := ctxH_sim (fs := fs) (T := T) (G := G) (rounds := rounds) d f args ⟨.nil, 0⟩ p.2 [] p.1 HIs.empty hp
    unfold alone
    rw [if_pos h1, h3]
    subst hb
    simp only
    rw [if_pos h2]
  · simp at h

end Go.PE

namespace Go.PE

/-- The environments differ at most in the slots S; there they stand as M says. -/
structure Ag (S : Nat → Bool) (M : Nat → V → V → Prop) (e e' : Env) : Prop where
  len : e.length = e'.length
  same : ∀ n, S n = false → e.getD n V.undef = e'.getD n V.undef
  rel : ∀ n, S n = true → M n (e.getD n V.undef) (e'.getD n V.undef)

section
variable {S : Nat → Bool} {M : Nat → V → V → Prop} {X : Ctx} {ok : EOp → Bool} {mv : EOper → Bool}

def dstOk (S : Nat → Bool) : Option Nat → Bool
  | none => true
  | some k => !S k

def gdOk (S : Nat → Bool) : Option (Nat × Bool) → Bool
  | none => true
  | some p => !S p.1

def opdOk (S : Nat → Bool) : Opd → Bool
  | .t n => !S n
  | .c _ => true

def drOk (S : Nat → Bool) (ok : EOp → Bool) (o : EOper) : Bool := (o.op.tms.all (fun n => !S n) || ok o.op) && dstOk S o.dst && gdOk S o.guard
def operOk (S : Nat → Bool) (ok : EOp → Bool) (mv : EOper → Bool) (o : EOper) : Bool := drOk S ok o || mv o

def dkOk (S : Nat → Bool) (ok : EOp → Bool) (mv : EOper → Bool) (p : EOper × DK) : Bool := match p.2 with | .N => operOk S ok mv p.1 | _ => drOk S ok p.1

def codeOk (S : Nat → Bool) (ok : EOp → Bool) (mv : EOper → Bool) : ECode → Bool
  | .skip => true
  | .ops l => l.all (operOk S ok mv)
  | .draw l => l.all (dkOk S ok mv)
  | .seq a b => codeOk S ok mv a && codeOk S ok mv b
  | .cond c a b => opdOk S c && codeOk S ok mv a && codeOk S ok mv b
  | .block _ c => codeOk S ok mv c
  | .loop c => codeOk S ok mv c
  | .exit _ => true
  | .ret => true
  | .fail => true

def resOk (S : Nat → Bool) : ERes → Bool
  | .tmp t => !S t
  | .cell a _ _ => !S a

theorem Ag.put {e e' : Env} (h : Ag S M e e') {dst : Option Nat} (hd : dstOk S dst = true) (v : V) : Ag S M (e.put dst v) (e'.put dst v) := by
  cases dst with
  | none => exact h
  | some k =>
    simp only [dstOk, Bool.not_eq_true'] at hd
    have g : ∀ (l : Env) (n : Nat), (l.set k v).getD n V.undef = if n = k ∧ k < l.length then v else l.getD n V.undef := by
      intro l n
      rw [List.getD_eq_getElem?_getD, List.getElem?_set]
      by_cases c : k = n
      · subst c
        by_cases c2 : k < l.length
        · simp [c2]
        · simp [c2]
      · rw [if_neg c, if_neg (fun c2 => c c2.1.symm), List.getD_eq_getElem?_getD]
    refine ⟨by simp [Env.put, h.len], fun n hn => ?_, fun n hn => ?_⟩
    · show (e.set k v).getD n V.undef = (e'.set k v).getD n V.undef
      rw [g, g, h.len, h.same n hn]
    · show M n ((e.set k v).getD n V.undef) ((e'.set k v).getD n V.undef)
      have : n ≠ k := fun c => by subst c; rw [hn] at hd; simp at hd
      rw [g, g, if_neg (fun c => this c.1), if_neg (fun c => this c.1)]
      exact h.rel n hn

theorem ag_opd {e e' : Env} (h : Ag S M e e') {x : Opd} (hx : opdOk S x = true) : x.ev e = x.ev e' := by
  cases x with
  | c v => rfl
  | t n => exact h.same n (by simpa [opdOk] using hx)

theorem ag_op (hok : ∀ op, ok op = true → ∀ e e' H, Ag S M e e' → evalOp X e H op = evalOp X e' H op) {e e' : Env} (h : Ag S M e e') {op : EOp} (ho : (op.tms.all (fun n => !S n) || ok op) = true) (H : Heap) :
    evalOp X e H op = evalOp X e' H op := by
  rw [Bool.or_eq_true] at ho
  rcases ho with ho | ho
  · refine evalOp_congr fun t ht => h.same t ?_
    have := List.all_eq_true.1 ho t ht
    simpa using this
  · exact hok op ho e e' H h

inductive AgO (S : Nat → Bool) (M : Nat → V → V → Prop) {α : Type} : Option (α × Env × Heap) → Option (α × Env × Heap) → Prop
  | none : AgO S M none none
  | some {x : α} {e e' : Env} {H : Heap} : Ag S M e e' → AgO S M (some (x, e, H)) (some (x, e', H))

inductive AgE (S : Nat → Bool) (M : Nat → V → V → Prop) : Option (Env × Heap) → Option (Env × Heap) → Prop
  | none : AgE S M none none
  | some {e e' : Env} {H : Heap} : Ag S M e e' → AgE S M (some (e, H)) (some (e', H))

theorem ag_wanted {e e' : Env} (h : Ag S M e e') {o : EOper} (hg : gdOk S o.guard = true) : o.wanted e = o.wanted e' := by
  obtain ⟨d, op, g⟩ := o
  cases g with
  | none => rfl
  | some p =>
    simp only [EOper.wanted]
    rw [h.same p.1 (by simpa [gdOk] using hg)]

/-- An operation that sends related slots to a related slot. -/
def RelOp (S : Nat → Bool) (M : Nat → V → V → Prop) (X : Ctx) (o : EOper) : Prop := ∃ j, o.dst = some j ∧ S j = true ∧ o.guard = none ∧
  ∀ e e' H, Ag S M e e' → (evalOp X e H o.op = none ∧ evalOp X e' H o.op = none) ∨ ∃ v v', evalOp X e H o.op = some (v, H) ∧ evalOp X e' H o.op = some (v', H) ∧ M j v v'

theorem Ag.putRel {e e' : Env} (h : Ag S M e e') {k : Nat} (hk : S k = true) {v v' : V} (hv : M k v v') : Ag S M (e.put (some k) v) (e'.put (some k) v') := by
  have g : ∀ (l : Env) (n : Nat) (v : V), (l.set k v).getD n V.undef = if n = k ∧ k < l.length then v else l.getD n V.undef := by
    intro l n v
    rw [List.getD_eq_getElem?_getD, List.getElem?_set]
    by_cases c : k = n
    · subst c
      by_cases c2 : k < l.length
      · simp [c2]
      · simp [c2]
    · rw [if_neg c, if_neg (fun c2 => c c2.1.symm), List.getD_eq_getElem?_getD]
  refine ⟨by simp [Env.put, h.len], fun n hn => ?_, fun n hn => ?_⟩
  · show (e.set k v).getD n V.undef = (e'.set k v').getD n V.undef
    have : n ≠ k := fun c => by subst c; rw [hk] at hn; simp at hn
    rw [g, g, if_neg (fun c => this c.1), if_neg (fun c => this c.1)]
    exact h.same n hn
  · show M n ((e.set k v).getD n V.undef) ((e'.set k v').getD n V.undef)
    rw [g, g, h.len]
    by_cases c : n = k ∧ k < e'.length
    · rw [if_pos c, if_pos c, c.1]; exact hv
    · rw [if_neg c, if_neg c]; exact h.rel n hn

theorem ag_dr (hok : ∀ op, ok op = true → ∀ e e' H, Ag S M e e' → evalOp X e H op = evalOp X e' H op) {o : EOper} (ho : drOk S ok o = true) {e e' : Env} (h : Ag S M e e') (H : Heap) :
    AgE S M (evalOper X o e H) (evalOper X o e' H) := by
  simp only [drOk, Bool.and_eq_true] at ho
  obtain ⟨⟨h1, h2⟩, h3⟩ := ho
  unfold evalOper
  rw [ag_wanted h h3, ag_op hok h h1 H]
  split
  · cases evalOp X e' H o.op with
    | none => exact .none
    | some p => exact .some (h.put h2 _)
  · exact .some (h.put h2 _)

theorem ag_oper (hok : ∀ op, ok op = true → ∀ e e' H, Ag S M e e' → evalOp X e H op = evalOp X e' H op) (hmv : ∀ o, mv o = true → RelOp S M X o)
    {o : EOper} (ho : operOk S ok mv o = true) {e e' : Env} (h : Ag S M e e') (H : Heap) : AgE S M (evalOper X o e H) (evalOper X o e' H) := by
  unfold operOk at ho
  rw [Bool.or_eq_true] at ho
  rcases ho with ho | ho
  · exact ag_dr hok ho h H
  · obtain ⟨j, h1, h2, h3, h4⟩ := hmv o ho
    have hw : ∀ e, o.wanted e = true := fun e => by unfold EOper.wanted; rw [h3]
    unfold evalOper
    rw [if_pos (hw e), if_pos (hw e'), h1]
    rcases h4 e e' H h with ⟨h5, h6⟩ | ⟨v, v', h5, h6, h7⟩
    · rw [h5, h6]; exact .none
    · rw [h5, h6]; exact .some (h.putRel h2 h7)

theorem ag_ops (hok : ∀ op, ok op = true → ∀ e e' H, Ag S M e e' → evalOp X e H op = evalOp X e' H op) (hmv : ∀ o, mv o = true → RelOp S M X o) : ∀ (l : List EOper), l.all (operOk S ok mv) = true → ∀ {e e' : Env}, Ag S M e e' → ∀ (H : Heap),
    AgE S M (evalOps X l e H) (evalOps X l e' H)
  | [], _, _, _, h, H => .some h
  | o :: l, ho, e, e', h, H => by
    simp only [List.all_cons, Bool.and_eq_true] at ho
    simp only [evalOps]
    have hr := ag_oper hok hmv ho.1 h H
    generalize hr1 : evalOper X o e H = r1 at hr
    generalize hr2 : evalOper X o e' H = r2 at hr
    cases hr with
    | none => exact .none
    | some h2 =>
      simp only [Option.bind_some]
      exact ag_ops hok hmv l ho.2 h2 _

inductive PdAg (S : Nat → Bool) (M : Nat → V → V → Prop) (ok : EOp → Bool) : List (Env × EOp × V × Nat × Nat) → List (Env × EOp × V × Nat × Nat) → Prop
  | nil : PdAg S M ok [] []
  | cons {e e' : Env} {op : EOp} {x : V × Nat × Nat} {l l'} : Ag S M e e' → (op.tms.all (fun n => !S n) || ok op) = true → PdAg S M ok l l' → PdAg S M ok ((e, op, x) :: l) ((e', op, x) :: l')

theorem ag_drawOk (hok : ∀ op, ok op = true → ∀ e e' H, Ag S M e e' → evalOp X e H op = evalOp X e' H op) (sn : List Heap) : ∀ {p p' : List (Env × EOp × V × Nat × Nat)}, PdAg S M ok p p' → drawOk X sn p = drawOk X sn p'
  | _, _, .nil => rfl
  | _, _, .cons (x := x) h ho k => by
    obtain ⟨v, lo, hi⟩ := x
    simp only [drawOk, List.all_cons]
    have hk := ag_drawOk hok sn k
    simp only [drawOk] at hk
    rw [hk]
    congr 1
    unfold sameRead
    congr 1
    funext H
    rw [ag_op hok h ho H]

inductive AgD (S : Nat → Bool) (M : Nat → V → V → Prop) (ok : EOp → Bool) : Option (Env × Heap × List Heap × List (Env × EOp × V × Nat × Nat)) → Option (Env × Heap × List Heap × List (Env × EOp × V × Nat × Nat)) → Prop
  | none : AgD S M ok none none
  | some {e e' : Env} {H : Heap} {sn : List Heap} {p p' : List (Env × EOp × V × Nat × Nat)} : Ag S M e e' → PdAg S M ok p p' → AgD S M ok (some (e, H, sn, p)) (some (e', H, sn, p'))

theorem ag_draw (hok : ∀ op, ok op = true → ∀ e e' H, Ag S M e e' → evalOp X e H op = evalOp X e' H op) (hmv : ∀ o, mv o = true → RelOp S M X o) : ∀ (l : List (EOper × DK)), l.all (dkOk S ok mv) = true → ∀ {e e' : Env}, Ag S M e e' → ∀ (H : Heap) (sn : List Heap)
    {p p' : List (Env × EOp × V × Nat × Nat)}, PdAg S M ok p p' → AgD S M ok (evalDraw X l e H sn p) (evalDraw X l e' H sn p')
  | [], _, _, _, h, H, sn, _, _, hp => .some h hp
  | (o, k) :: l, ho, e, e', h, H, sn, p, p', hp => by
    simp only [List.all_cons, Bool.and_eq_true] at ho
    cases k with
    | N =>
      simp only [evalDraw]
      have hr := ag_oper hok hmv (o := o) ho.1 h H
      generalize hr1 : evalOper X o e H = r1 at hr
      generalize hr2 : evalOper X o e' H = r2 at hr
      cases hr with
      | none => exact .none
      | some h2 =>
        simp only [Option.bind_some]
        exact ag_draw hok hmv l ho.2 h2 _ _ hp
    | W =>
      simp only [evalDraw]
      have hr := ag_dr hok (o := o) ho.1 h H
      generalize hr1 : evalOper X o e H = r1 at hr
      generalize hr2 : evalOper X o e' H = r2 at hr
      cases hr with
      | none => exact .none
      | some h2 =>
        simp only [Option.bind_some]
        exact ag_draw hok hmv l ho.2 h2 _ _ hp
    | R lo hi =>
      have ho1 : drOk S ok o = true := ho.1
      simp only [drOk, Bool.and_eq_true] at ho1
      obtain ⟨⟨h1, h2⟩, h3⟩ := ho1
      simp only [evalDraw]
      rw [ag_wanted h h3, ag_op hok h h1 H]
      split
      · cases evalOp X e' H o.op with
        | none => exact .none
        | some r =>
          simp only [Option.bind_some]
          refine ag_draw hok hmv l ho.2 (h.put h2 _) _ _ ?_
          split
          · exact hp
          · exact .cons h h1 hp
      · exact ag_draw hok hmv l ho.2 (h.put h2 _) _ _ hp

theorem ag_loop {f : Env → Heap → Option (Ex × Env × Heap)} (hf : ∀ e e' H, Ag S M e e' → AgO S M (f e H) (f e' H)) : ∀ (n : Nat) (e e' : Env) (H : Heap), Ag S M e e' → AgO S M (loopE f n e H) (loopE f n e' H)
  | 0, _, _, _, _ => .none
  | n + 1, e, e', H, h => by
    simp only [loopE]
    have hr := hf e e' H h
    generalize hr1 : f e H = r1 at hr
    generalize hr2 : f e' H = r2 at hr
    cases hr with
    | none => exact .none
    | some h2 =>
      rename_i x e1 e1' H1
      cases x with
      | normal => exact ag_loop hf n _ _ _ h2
      | exit id => exact .some h2
      | ret => exact .some h2

theorem ag_code (hok : ∀ op, ok op = true → ∀ e e' H, Ag S M e e' → evalOp X e H op = evalOp X e' H op) (hmv : ∀ o, mv o = true → RelOp S M X o) (fuel : Nat) : ∀ (c : ECode), codeOk S ok mv c = true → ∀ (e e' : Env) (H : Heap), Ag S M e e' →
    AgO S M (evalCode X fuel c e H) (evalCode X fuel c e' H)
  | .skip, _, _, _, _, h => .some h
  | .ops l, hc, e, e', H, h => by
    simp only [evalCode]
    have hr := ag_ops hok hmv l hc h H
    generalize hr1 : evalOps X l e H = r1 at hr
    generalize hr2 : evalOps X l e' H = r2 at hr
    cases hr with
    | none => exact .none
    | some h2 => exact .some h2
  | .draw l, hc, e, e', H, h => by
    simp only [evalCode]
    have hr := ag_draw hok hmv l hc h H [] (p := []) (p' := []) .nil
    generalize hr1 : evalDraw X l e H [] [] = r1 at hr
    generalize hr2 : evalDraw X l e' H [] [] = r2 at hr
    cases hr with
    | none => exact .none
    | some h2 hp =>
      simp only
      rw [ag_drawOk hok _ hp]
      split
      · exact .some h2
      · exact .none
  | .seq a b, hc, e, e', H, h => by
    simp only [codeOk, Bool.and_eq_true] at hc
    simp only [evalCode]
    have hr := ag_code hok hmv fuel a hc.1 e e' H h
    generalize hr1 : evalCode X fuel a e H = r1 at hr
    generalize hr2 : evalCode X fuel a e' H = r2 at hr
    cases hr with
    | none => exact .none
    | some h2 =>
      rename_i x e1 e1' H1
      cases x with
      | normal => exact ag_code hok hmv fuel b hc.2 _ _ _ h2
      | exit id => exact .some h2
      | ret => exact .some h2
  | .cond c a b, hc, e, e', H, h => by
    simp only [codeOk, Bool.and_eq_true] at hc
    simp only [evalCode]
    rw [ag_opd h hc.1.1]
    split
    · exact ag_code hok hmv fuel a hc.1.2 e e' H h
    · exact ag_code hok hmv fuel b hc.2 e e' H h
    · exact .none
  | .block id c, hc, e, e', H, h => by
    simp only [evalCode]
    have hr := ag_code hok hmv fuel c hc e e' H h
    generalize hr1 : evalCode X fuel c e H = r1 at hr
    generalize hr2 : evalCode X fuel c e' H = r2 at hr
    cases hr with
    | none => exact .none
    | some h2 =>
      rename_i x e1 e1' H1
      cases x with
      | normal => exact .some h2
      | exit id => exact .some h2
      | ret => exact .some h2
  | .loop c, hc, e, e', H, h => ag_loop (ag_code hok hmv fuel c hc) fuel e e' H h
  | .exit id, _, _, _, _, h => .some h
  | .ret, _, _, _, _, h => .some h
  | .fail, _, _, _, _, _ => .none

theorem ag_res {e e' : Env} (h : Ag S M e e') (H : Heap) {rs : List ERes} (hr : rs.all (resOk S) = true) : resultsE rs e H = resultsE rs e' H := by
  have : rs.mapM (evalRes e H) = rs.mapM (evalRes e' H) := by
    induction rs with
    | nil => rfl
    | cons r rs ih =>
      simp only [List.all_cons, Bool.and_eq_true] at hr
      rw [List.mapM_cons, List.mapM_cons, ih hr.2]
      congr 1
      cases r with
      | tmp t => simp only [evalRes]; rw [h.same t (by simpa [resOk] using hr.1)]
      | cell a g n => simp only [evalRes]; rw [h.same a (by simpa [resOk] using hr.1)]
  unfold resultsE
  rw [this]

/-- THE TWO RUNS ANSWER ALIKE. -/
theorem ag_func (hok : ∀ op, ok op = true → ∀ e e' H, Ag S M e e' → evalOp X e H op = evalOp X e' H op) (hmv : ∀ o, mv o = true → RelOp S M X o) (fuel : Nat) {f : EFunc} (hc : codeOk S ok mv f.body = true) (hr : f.results.all (resOk S) = true)
    {args args' : List V} (hl : args.length = args'.length) (h : ∀ n, Ag S M (args ++ List.replicate n V.undef) (args' ++ List.replicate n V.undef)) (H : Heap) : evalFunc X fuel f args H = evalFunc X fuel f args' H := by
  unfold evalFunc
  rw [hl]
  split
  · have hk := ag_code hok hmv fuel f.body hc _ _ H (h (f.ntmps - args'.length))
    generalize hr1 : evalCode X fuel f.body (args ++ List.replicate (f.ntmps - args'.length) V.undef) H = r1 at hk
    generalize hr2 : evalCode X fuel f.body (args' ++ List.replicate (f.ntmps - args'.length) V.undef) H = r2 at hk
    cases hk with
    | none => rfl
    | some h2 =>
      rename_i x e1 e1' H1
      cases x with
      | normal => simp only; rw [ag_res h2 _ hr]
      | exit id => rfl
      | ret => simp only; rw [ag_res h2 _ hr]
  · rfl

end

/-! ### a number that is looked at through its remainder -/

/-- The values of a slot that is looked at through its remainder: of a kind, by a number. -/
def modM (mo : Nat → Option (IntKind × Int)) (n : Nat) (v v' : V) : Prop :=
  v = v' ∨ ∃ k m a a', mo n = some (k, m) ∧ v = .int k a ∧ v' = .int k a' ∧ 0 ≤ a ∧ a < 256 ∧ 0 ≤ a' ∧ a' < 256 ∧ a.tmod m = a'.tmod m

def moS (mo : Nat → Option (IntKind × Int)) (n : Nat) : Bool := (mo n).isSome

/-- A slot's value goes to another of its kind, or is turned into another kind of number. -/
def moMv (mo : Nat → Option (IntKind × Int)) : EOper → Bool
  | ⟨some j, .move (.t i), none⟩ => (mo i).isSome && decide (mo i = mo j)
  | ⟨some j, .conv k (.t i), none⟩ => match mo i, mo j with | some (_, m), some (k', m') => decide (k = k') && decide (m = m') && decide (k ≠ .i8) | _, _ => false
  | _ => false

theorem wrap_byte {k : IntKind} (hk : k ≠ .i8) {a : Int} (h0 : 0 ≤ a) (h1 : a < 256) : k.wrap a = a := by
  cases k <;> first | exact absurd rfl hk | (simp [IntKind.wrap, IntKind.bits, IntKind.signed]; omega)

theorem moMv_ok {mo : Nat → Option (IntKind × Int)} {X : Ctx} (o : EOper) (h : moMv mo o = true) : RelOp (moS mo) (modM mo) X o := by
  unfold moMv at h
  split at h
  · rename_i j i
    simp only [Bool.and_eq_true, decide_eq_true_eq] at h
    obtain ⟨h1, h2⟩ := h
    refine ⟨j, rfl, by unfold moS; rw [← h2]; exact h1, rfl, fun e e' H ha => .inr ⟨_, _, rfl, rfl, ?_⟩⟩
    rcases ha.rel i h1 with h3 | ⟨k, m, a, a', q1, q2⟩
    · exact .inl h3
    · exact .inr ⟨k, m, a, a', h2 ▸ q1, q2⟩
  · rename_i j k i
    split at h
    · rename_i k0 m k' m' e1 e2
      simp only [Bool.and_eq_true, decide_eq_true_eq] at h
      obtain ⟨⟨rfl, rfl⟩, hk⟩ := h
      refine ⟨j, rfl, by unfold moS; rw [e2]; rfl, rfl, fun e e' H ha => ?_⟩
      rcases ha.rel i (by unfold moS; rw [e1]; rfl) with h3 | ⟨k1, m1, a, a', q1, q2, q3, q4, q5, q6, q7, q8⟩
      · simp only [evalOp, Opd.ev]
        rw [h3]
        split
        · exact .inr ⟨_, _, rfl, rfl, .inl rfl⟩
        · exact .inl ⟨rfl, rfl⟩
      · rw [e1] at q1
        simp only [Option.some.injEq, Prod.mk.injEq] at q1
        obtain ⟨rfl, rfl⟩ := q1
        refine .inr ⟨.int k a, .int k a', ?_, ?_, .inr ⟨k, m, a, a', e2, rfl, rfl, q4, q5, q6, q7, q8⟩⟩
        · simp only [evalOp, Opd.ev]; rw [q2]; simp only; rw [wrap_byte hk q4 q5]
        · simp only [evalOp, Opd.ev]; rw [q3]; simp only; rw [wrap_byte hk q6 q7]
    · simp at h
  · simp at h

/-- 'x % m', x the slot's number; or a call that is known to look through the remainder. -/
def remOp (mo : Nat → Option (IntKind × Int)) (calls : List (FuncId × Int)) : EOp → Bool
  | .bin .rem (.t n) (.c (.int k m)) => decide (mo n = some (k, m))
  | .call f [.t a, .t b] => (calls.any fun p => Nat.beq p.1 f && decide (mo a = some (.u8, p.2))) && !moS mo b
  | _ => false

theorem remOp_ok {mo : Nat → Option (IntKind × Int)} {calls : List (FuncId × Int)} {X : Ctx}
    (hX : ∀ p ∈ calls, ∀ (a a' : Int) (y : V) (H : Heap), 0 ≤ a → a < 256 → 0 ≤ a' → a' < 256 → a.tmod p.2 = a'.tmod p.2 → X p.1 [.int .u8 a, y] H = X p.1 [.int .u8 a', y] H) :
    ∀ op, remOp mo calls op = true → ∀ e e' H, Ag (moS mo) (modM mo) e e' → evalOp X e H op = evalOp X e' H op := by
  intro op ho e e' H h
  unfold remOp at ho
  split at ho
  · rename_i n k m
    simp only [decide_eq_true_eq] at ho
    rcases h.rel n (by unfold moS; rw [ho]; rfl) with h1 | ⟨k', m', a, a', e1, e2, e3, _, _, _, _, e4⟩
    · simp only [evalOp, Opd.ev]; rw [h1]
    · rw [ho] at e1
      simp only [Option.some.injEq, Prod.mk.injEq] at e1
      obtain ⟨rfl, rfl⟩ := e1
      simp only [evalOp, Opd.ev]
      rw [e2, e3]
      have hb : ∀ x : Int, binE .rem (.int k x) (.int k m) = if m = 0 then none else some (.int k (x.tmod m)) := fun x => by simp [binE, arithE]
      rw [hb, hb, e4]
  · rename_i f a b
    simp only [Bool.and_eq_true, List.any_eq_true, decide_eq_true_eq, Bool.not_eq_true'] at ho
    obtain ⟨⟨p, hp, hf, hm⟩, hb⟩ := ho
    have hf := Nat.eq_of_beq_eq_true hf
    subst hf
    have h2 := h.same b hb
    rcases h.rel a (by unfold moS; rw [hm]; rfl) with h1 | ⟨k', m', x, x', e1, e2, e3, q4, q5, q6, q7, q8⟩
    · simp only [evalOp, List.map_cons, List.map_nil, Opd.ev]; rw [h1, h2]
    · rw [hm] at e1
      simp only [Option.some.injEq, Prod.mk.injEq] at e1
      obtain ⟨rfl, rfl⟩ := e1
      simp only [evalOp, List.map_cons, List.map_nil, Opd.ev]
      rw [e2, e3, h2]
      exact hX p hp x x' _ H q4 q5 q6 q7 q8
  · simp at ho

theorem ag_args {mo : Nat → Option (IntKind × Int)} {l l' : List V} (hl : l.length = l'.length) (h : ∀ n, n < l.length → if moS mo n = true then modM mo n (l.getD n V.undef) (l'.getD n V.undef) else l.getD n V.undef = l'.getD n V.undef) (k : Nat) :
    Ag (moS mo) (modM mo) (l ++ List.replicate k V.undef) (l' ++ List.replicate k V.undef) := by
  have g : ∀ (m : List V) (n : Nat), (m ++ List.replicate k V.undef).getD n V.undef = m.getD n V.undef := by
    intro m n
    rw [List.getD_eq_getElem?_getD, List.getD_eq_getElem?_getD, List.getElem?_append]
    split
    · rfl
    · rename_i c
      rw [List.getElem?_eq_none (l := m) (by omega)]
      by_cases c2 : n - m.length < k
      · rw [List.getElem?_replicate, if_pos c2]; rfl
      · rw [List.getElem?_replicate, if_neg c2]
  have out : ∀ n, ¬ n < l.length → l.getD n V.undef = l'.getD n V.undef := by
    intro n hn
    rw [List.getD_eq_getElem?_getD, List.getD_eq_getElem?_getD, List.getElem?_eq_none (by omega), List.getElem?_eq_none (by omega)]
  refine ⟨by simp [hl], fun n hn => ?_, fun n hn => ?_⟩
  · rw [g, g]
    by_cases c : n < l.length
    · have := h n c
      rw [hn] at this
      simpa using this
    · exact out n c
  · rw [g, g]
    by_cases c : n < l.length
    · have := h n c
      rw [hn] at this
      simpa using this
    · exact .inl (out n c)

/-- What a function that has no shortcut answers, told by its own code. -/
theorem ctxE_open {fs : FuncId → Option EFunc} {S : Ctx} {rounds : Nat} {f : FuncId} {ef : EFunc} (hS : ∀ args H, S f args H = none) (hf : fs f = some ef) (d : Nat) (args : List V) (H : Heap) :
    ctxE fs S rounds (d + 1) f args H = evalFunc (ctxE fs S rounds d) rounds ef args H := by
  simp only [ctxE, hS, hf]

end Go.PE

namespace Go.PE

/-- In a later world, in which all that was there stands, a new block holds a new row. -/
theorem Rel.place {R : Ren} {g g' : Get} {w w' : World} (h : Rel R g w) {b : Nat} (hb : ∀ v, R.loc b v = none) (hm : R.mp b = none) {cs : List V} {c : Array Value} {t : TypeId}
    (hg : g' b = some (.cells cs 0 0)) (hk : ∀ k, k ≠ b → ((∃ v L, R.loc k v = some L) ∨ ∃ r, R.mp k = some r) → g' k = g k) (hone : cs.all V.one = true)
    (hc : cs.length ≤ c.size) (hv : VRL R cs (c.toList.take cs.length))
    (hos : w'.os = w.os) (htape : w'.tape = w.tape) (hout : w'.output = w.output) (hsize : w.heap.size ≤ w'.heap.size) (hold : ∀ r, r < w.heap.size → w'.heap[r]? = w.heap[r]?)
    {r : Nat} (hr : w.heap.size ≤ r) (hblk : w'.heap[r]? = some (.cells c t (0, 0))) :
    Rel (R.addLoc b 0 ⟨r, 0, cs.length, c.size⟩) g' w' ∧ StepR R w (R.addLoc b 0 ⟨r, 0, cs.length, c.size⟩) w' := by
  have le : R.Le (R.addLoc b 0 ⟨r, 0, cs.length, c.size⟩) := Ren.addLoc_le (hb 0)
  have h' := h.stood hold
  refine ⟨⟨?_, ?_, ?_, h.mpinj, ?_, ?_⟩, ⟨le, hos, htape, hout, hsize, fun r hr _ _ => hold r hr, ?_, fun _ _ e => .inl e, fun _ _ _ e => .inl e⟩⟩
  · intro b' v' L' e
    rcases Ren.addLoc_inv e with ⟨rfl, rfl, rfl⟩ | e'
    · refine ⟨cs, 0, 0, c, t, hg, hone, ⟨hblk, rfl, Nat.zero_le _, Nat.le_refl _, by simpa using hc, Nat.le_refl _, Nat.le_refl _, fun _ => rfl, ?_⟩⟩
      intro _ j x _ hj hx
      obtain ⟨y, hy, hr⟩ := hv.get hx
      refine ⟨y, ?_, hr.mono le⟩
      rw [List.getElem?_take, if_pos hj, Array.getElem?_toList] at hy
      simpa using hy
    · obtain ⟨l, ver, mn, c', t', hg2, ho2, hk2⟩ := h'.loc b' v' L' e'
      have hne : b' ≠ b := by rintro rfl; rw [hb v'] at e'; simp at e'
      exact ⟨l, ver, mn, c', t', by rw [hk b' hne (.inl ⟨v', L', e'⟩)]; exact hg2, ho2, hk2.mono le⟩
  · intro b1 v1 L1 b2 v2 L2 e1 e2 er
    rcases Ren.addLoc_inv e1 with ⟨rfl, rfl, rfl⟩ | e1' <;> rcases Ren.addLoc_inv e2 with ⟨rfl, rfl, rfl⟩ | e2'
    · exact ⟨rfl, rfl⟩
    · have := h.lt e2'; simp only at er; omega
    · have := h.lt e1'; simp only at er; omega
    · exact h.inj b1 v1 L1 b2 v2 L2 e1' e2' er
  · intro b' r' e
    obtain ⟨es, clock, es', hg2, hk2, hmm⟩ := h'.mp b' r' e
    have hne : b' ≠ b := by rintro rfl; have e' : R.mp b' = some r' := e; rw [hm] at e'; simp at e'
    exact ⟨es, clock, es', by rw [hk b' hne (.inr ⟨r', e⟩)]; exact hg2, hk2, hmm.mono le⟩
  · intro r' j x e
    obtain ⟨c', t', fz, y, hb', hy, hr⟩ := h'.im r' j x e
    exact ⟨c', t', fz, y, hb', hy, hr.mono le⟩
  · intro r' j x b' v' L' e e'
    rcases Ren.addLoc_inv e' with ⟨rfl, rfl, rfl⟩ | e''
    · have := h.ilt e; simp only; omega
    · exact h.imloc r' j x b' v' L' e e''
  · intro b' v' L' e
    rcases Ren.addLoc_inv e with ⟨rfl, rfl, rfl⟩ | e'
    · exact .inr hr
    · exact .inl ⟨v', L', e', rfl⟩

def isI64 : V → Bool
  | .int .i64 _ => true
  | _ => false

theorem isI64_list : ∀ {cs : List V}, cs.all isI64 = true → ∃ zs : List Int, cs = zs.map (V.int .i64)
  | [], _ => ⟨[], rfl⟩
  | c :: cs, h => by
    simp only [List.all_cons, Bool.and_eq_true] at h
    obtain ⟨zs, rfl⟩ := isI64_list h.2
    cases c <;> simp only [isI64, Bool.false_eq_true, false_and] at h
    rename_i k n
    cases k <;> simp only [Bool.false_eq_true, false_and] at h
    exact ⟨n :: zs, rfl⟩

/-- 'append(nil, all that the slice holds)', the slice's iterator a closure over its cell. -/
def appSeqG (f0 g0 : FuncId) : HeapS := fun f args g m =>
  cond (Nat.beq f f0)
    (match args with
    | [.nils, .fn g1 [] [.ptr b v off ext]] =>
      if g1 = g0 then
        match loadG g false 1 (.ptr b v off ext) with
        | some .nils => some (.nils, .same)
        | some (.slice b v off len es cap) =>
          match firstG g 1 len (.slice b v off len es cap) with
          | some cs => if 0 < len ∧ len ≤ 4096 ∧ cs.all isI64 = true then some (.slice m 0 0 len 1 none, .push (.cells cs 0 0)) else none
          | none => none
        | _ => none
      else none
    | _ => none)
    none

end Go.PE

namespace Go.PE

theorem idxOf_range {n i : Nat} (h : i < n) : (List.range n).idxOf i = i := by
  have h1 : (List.range n)[i]'(by simpa using h) = i := by simp
  have h2 := List.Nodup.idxOf_getElem (List.nodup_range (n := n)) i (by simpa using h)
  rw [h1] at h2; exact h2

theorem go_text {md : Region.Mode} {ops : Array Oper} (h : ∀ i o, ops[i]? = some o → ∀ e ∈ o.after.toList, Region.binds md e = true → e.on < i) :
    ∀ (m k : Nat), k + m = ops.size → ∀ (listed : Array Bool), listed.size = ops.size → (∀ j (hj : j < listed.size), listed[j] = decide (j < k)) →
      Region.linearise.go md ops m 0 listed (List.range k).reverse = List.range ops.size
  | 0, k, hk, listed, hs, hl => by
    have : k = ops.size := by omega
    subst this
    simp [Region.linearise.go]
  | m + 1, k, hk, listed, hs, hl => by
    have hkn : k < ops.size := by omega
    simp only [Region.linearise.go]
    obtain ⟨rest, hr⟩ : ∃ rest, (List.range ops.size).filter (fun i => !listed.getD i true && ((ops[i]?).map (·.after.all fun e => !Region.binds md e || listed.getD e.on false)).getD false) = k :: rest := by
      have e1 : List.range ops.size = List.range k ++ (k :: List.range' (k + 1) m) := by
        rw [List.range_eq_range', List.range_eq_range', show ops.size = k + (m + 1) by omega, ← List.range'_append_1]
        simp [List.range'_succ]
      rw [e1, List.filter_append]
      have e2 : (List.range k).filter (fun i => !listed.getD i true && ((ops[i]?).map (·.after.all fun e => !Region.binds md e || listed.getD e.on false)).getD false) = [] := by
        rw [List.filter_eq_nil_iff]
        intro a ha
        rw [List.mem_range] at ha
        have := hl a (by omega)
        simp only [Array.getD]
        rw [dif_pos (by omega)]
        simp [this, ha]
      rw [e2, List.nil_append, List.filter_cons]
      have e3 : (!listed.getD k true && ((ops[k]?).map (·.after.all fun e => !Region.binds md e || listed.getD e.on false)).getD false) = true := by
        rw [Array.getElem?_eq_getElem hkn]
        simp only [Option.map_some, Option.getD_some, Bool.and_eq_true]
        constructor
        · simp only [Array.getD]
          rw [dif_pos (by omega)]
          simp [hl k (by omega)]
        · rw [Array.all_eq_true]
          intro j hj
          have hm : ops[k].after[j] ∈ ops[k].after.toList := by simp
          cases hb : Region.binds md ops[k].after[j] with
          | false => rfl
          | true =>
            have hlt := h k ops[k] (Array.getElem?_eq_getElem hkn) _ hm hb
            simp only [Array.getD]
            rw [dif_pos (by omega)]
            simp [hl _ (show (ops[k].after[j]).on < listed.size by omega), hlt]
      rw [if_pos e3]
      exact ⟨_, rfl⟩
    rw [hr]
    simp only [Nat.zero_mod, List.getElem?_cons_zero, Nat.zero_div]
    have e4 : k :: (List.range k).reverse = (List.range (k + 1)).reverse := by simp [List.range_succ]
    rw [e4]
    refine go_text h m (k + 1) (by omega) _ (by simpa using hs) ?_
    intro j hj
    have hj' : j < listed.size := by rw [Array.size_setIfInBounds] at hj; exact hj
    rw [Array.getElem_setIfInBounds hj']
    split
    · rename_i c; subst c; simp
    · rename_i c
      rw [hl j hj']
      by_cases hjk : j < k
      · simp [hjk]; omega
      · simp [hjk]; omega

def backOk (md : Region.Mode) (ops : Array Oper) : Bool :=
  ops.toList.zipIdx.all fun p => p.1.after.toList.all fun e => !Region.binds md e || Nat.blt e.on p.2

theorem orderOk_back {md : Region.Mode} {ops : Array Oper} (h : backOk md ops = true) : orderOk md ops = true := by
  have hb : ∀ i o, ops[i]? = some o → ∀ e ∈ o.after.toList, Region.binds md e = true → e.on < i := by
    intro i o ho e he hbd
    unfold backOk at h
    have hm : (o, i) ∈ ops.toList.zipIdx := by
      rw [List.mem_zipIdx_iff_getElem?]
      simpa using ho
    have h1 := List.all_eq_true.1 (List.all_eq_true.1 h _ hm) e he
    rw [hbd] at h1
    simpa using h1
  have hlin : Region.linearise md ops 0 = List.range ops.size := by
    have := go_text hb ops.size 0 (by omega) (Array.replicate ops.size false) (by simp) (by intro j hj; simp)
    simpa [Region.linearise] using this
  unfold orderOk
  simp only [hlin]
  rw [List.all_eq_true]
  intro i hi
  rw [List.mem_range] at hi
  rw [Array.getElem?_eq_getElem hi]
  simp only
  rw [List.all_eq_true]
  intro e he
  cases hbd : Region.binds md e with
  | false => rfl
  | true =>
    have hlt := hb i ops[i] (Array.getElem?_eq_getElem hi) e he hbd
    rw [idxOf_range hi, idxOf_range (show e.on < ops.size by omega)]
    simp; omega

end Go.PE

namespace Go.PE

/-- Plain data of one cell. -/
noncomputable def plain1 (v : V) : Bool :=
  V.rec (motive_1 := fun _ => Bool) (motive_2 := fun _ => Unit) (fun _ => true) (fun _ _ => true) (fun _ => true) (fun _ _ _ _ => false) true (fun _ _ => false)
    (fun _ _ _ _ _ _ => false) true false (fun _ _ _ => false) (fun _ => false) true (fun _ _ _ _ _ => false) true (fun _ _ _ => false) true (fun _ _ => false) (fun _ _ => false)
    () (fun _ _ _ _ => ()) v

noncomputable def plainR (l : List V) : Bool := List.rec (motive := fun _ => Bool) true (fun h _ ih => Bool.rec false ih (plain1 h)) l

theorem plainR_all : ∀ {l : List V}, plainR l = true → ∀ x ∈ l, plain1 x = true
  | [], _, x, hx => by simp at hx
  | a :: l, h, x, hx => by
    have h : (Bool.rec (motive := fun _ => Bool) false (plainR l) (plain1 a)) = true := h
    cases ha : plain1 a with
    | false => rw [ha] at h; exact absurd (show false = true from h) (by simp)
    | true =>
      rw [ha] at h
      rcases List.mem_cons.1 hx with rfl | hx
      · exact ha
      · exact plainR_all (show plainR l = true from h) x hx

def absOf : Value → Option V
  | .bool b => some (.bool b)
  | .int k n => some (.int k n)
  | .string s => some (.str s)
  | .pointer none => some .nilptr
  | .slice none 0 0 => some .nils
  | .map none => some .nilmap
  | .nilFunc => some .nilfn
  | .nilIface => some .nilif
  | _ => none

theorem absOf_vr {R : Ren} {x : Value} {v : V} (h : absOf x = some v) : VR R v x := by
  unfold absOf at h
  split at h <;> simp only [Option.some.injEq, reduceCtorEq] at h <;> subst h <;> constructor

theorem absOf_of {R : Ren} {x : Value} {v : V} (h : VR R v x) (hp : plain1 v = true) : absOf x = some v := by
  cases h <;> first | rfl | (exact absurd (show false = true from hp) (by simp))

theorem plain1_plain {v : V} (h : plain1 v = true) : V.plain v = true := by
  cases v <;> first | rfl | (exact absurd (show false = true from h) (by simp))

theorem plain1_one {v : V} (h : plain1 v = true) : V.one v = true := by
  cases v <;> first | rfl | (exact absurd (show false = true from h) (by simp))

/-- All of memory, as memory that never turns, so far as it is plain data. -/
def Ren.view (w : World) : Ren := ⟨fun _ _ => none, fun _ => none, fun r j => match w.heap[r]? with | some (.cells c _ _) => (c[j]?).bind absOf | _ => none⟩

theorem Rel.view (g : Get) (w : World) : Rel (Ren.view w) g w := by
  refine ⟨fun _ _ _ h => by simp [Ren.view] at h, fun _ _ _ _ _ _ h => by simp [Ren.view] at h, fun _ _ h => by simp [Ren.view] at h, fun _ _ _ h => by simp [Ren.view] at h, ?_, fun _ _ _ _ _ _ _ h => by simp [Ren.view] at h⟩
  intro r j x e
  simp only [Ren.view] at e
  split at e
  · rename_i c t fz hb
    rw [Option.bind_eq_some_iff] at e
    obtain ⟨y, hy, hx⟩ := e
    exact ⟨c, t, fz, y, hb, hy, absOf_vr hx⟩
  · simp at e

/-- An argument, its slice's cells beside it. -/
noncomputable def viewV (g : Nat → Option Box) (v : V) : Option V :=
  V.rec (motive_1 := fun _ => Option V) (motive_2 := fun _ => Unit) (fun b => some (.bool b)) (fun k n => some (.int k n)) (fun s => some (.str s)) (fun _ _ _ _ => none) (some .nilptr) (fun _ _ => none)
    (fun b v o n es _ => cellsOf (V) (g b) fun l _ mn => Bool.rec none (Option.rec none (fun l1 => Option.rec none (fun cs => Bool.rec none (some (.psl n cs)) (plainR cs)) (takeR (Nat.mul n es) l1)) (dropR o l)) (Nat.ble mn v))
    (some .nils) (some (.psl 0 [])) (fun _ _ _ => none) (fun _ => none) (some .nilmap) (fun _ _ _ _ _ => none) (some .nilfn) (fun _ _ _ => none) (some .nilif) (fun _ _ => none) (fun _ _ => none)
    () (fun _ _ _ _ => ()) v

noncomputable def viewL (g : Nat → Option Box) (l : List V) : Option (List V) :=
  List.rec (motive := fun _ => Option (List V)) (some []) (fun h _ ih => Option.rec none (fun x => Option.rec none (fun r => some (x :: r)) ih) (viewV g h)) l

noncomputable def viewA (g : Nat → Option Box) (v : V) : Option V :=
  V.rec (motive_1 := fun _ => Option V) (motive_2 := fun _ => Unit) (fun b => some (.bool b)) (fun k n => some (.int k n)) (fun s => some (.str s)) (fun _ _ _ _ => none) (some .nilptr) (fun _ _ => none)
    (fun b v o n es c => viewV g (.slice b v o n es c))
    (some .nils) (some (.psl 0 [])) (fun _ _ _ => none) (fun _ => none) (some .nilmap) (fun _ _ _ _ _ => none) (some .nilfn) (fun _ _ _ => none) (some .nilif)
    (fun l _ => Option.rec none (fun r => some (.agg r)) (viewL g l)) (fun _ _ => none)
    () (fun _ _ _ _ => ()) v

noncomputable def views (g : Nat → Option Box) (l : List V) : Option (List V) :=
  List.rec (motive := fun _ => Option (List V)) (some []) (fun h _ ih => Option.rec none (fun x => Option.rec none (fun r => some (x :: r)) ih) (viewA g h)) l

section
variable {R : Ren} {H : Heap} {w : World}

theorem viewV_ok (hrel : Rel R (H[·]?) w) {v v' : V} {x : Value} (hv : VR R v x) (h : viewV (H[·]?) v = some v') : VR (Ren.view w) v' x := by
  cases hv with
  | bool b => cases (show some (V.bool b) = some v' from h); constructor
  | int k n => cases (show some (V.int k n) = some v' from h); constructor
  | str s => cases (show some (V.str s) = some v' from h); constructor
  | nilptr => cases (show some V.nilptr = some v' from h); constructor
  | nils => cases (show some V.nils = some v' from h); constructor
  | nilmap => cases (show some V.nilmap = some v' from h); constructor
  | nilfn => cases (show some V.nilfn = some v' from h); constructor
  | nilif => cases (show some V.nilif = some v' from h); constructor
  | emp0 =>
    cases (show some (V.psl 0 []) = some v' from h)
    exact .psl (fun j x e => by simp at e) (Nat.le_refl _)
  | ptr | pptr | psl | map | fn | iface | agg | tup => exact absurd (show (none : Option V) = some v' from h) (by simp)
  | slice e1 e2 e3 e4 e5 e6 =>
    rename_i b vv off len es c cap L
    have h : (cellsOf (V) (H[b]?) fun l _ mn => Bool.rec (motive := fun _ => Option V) none (Option.rec (motive := fun _ => Option V) none (fun l1 => Option.rec (motive := fun _ => Option V) none (fun cs => Bool.rec (motive := fun _ => Option V) none (some (.psl len cs)) (plainR cs)) (takeR (Nat.mul len es) l1)) (dropR off l)) (Nat.ble mn vv)) = some v' := h
    obtain ⟨l, ver, mn, h1, h2⟩ := cellsOf_some h
    obtain ⟨h3, h4⟩ := brec_some h2
    obtain ⟨l1, h5, h6⟩ := orec_some' h4
    obtain ⟨cs, h7, h8⟩ := orec_some' h6
    obtain ⟨h9, h10⟩ := brec_some h8
    simp only [Option.some.injEq] at h10; subst h10
    have h3 : mn ≤ vv := Nat.le_of_ble_eq_true h3
    obtain ⟨q1, q2⟩ := dropR_ok _ _ h5
    obtain ⟨q3, q4⟩ := takeR_ok _ _ h7
    rw [q2, List.length_drop] at q3
    have q3 : len * es ≤ l.length - off := q3
    have hr : readCells H b vv off (len * es) = some cs := by
      simp only [readCells, h1]
      rw [if_pos ⟨h3, by omega⟩, q4, q2]; rfl
    obtain ⟨k1, xs, k2, k3⟩ := hrel.read e1 e2 e3 hr
    refine .psl (fun j x hx => ?_) e4
    obtain ⟨y, hy, hxy⟩ := k2.get hx
    have hc := k3 j y hy
    rw [addr_add] at hc
    obtain ⟨_, _, _, c', t', _, _, hk⟩ := hrel.loc _ _ _ e1
    have hb := hk.blk
    simp only [World.cell?, hb] at hc
    simp only [Ren.view, hb]
    have hc : c'[off - L.lo + j]? = some y := by simpa using hc
    rw [hc]
    exact absOf_of hxy (plainR_all h9 x (List.mem_of_getElem? hx))
  | slice0 e1 e2 e3 e4 =>
    rename_i b vv off es r o cap L
    have h : (cellsOf (V) (H[b]?) fun l _ mn => Bool.rec (motive := fun _ => Option V) none (Option.rec (motive := fun _ => Option V) none (fun l1 => Option.rec (motive := fun _ => Option V) none (fun cs => Bool.rec (motive := fun _ => Option V) none (some (.psl 0 cs)) (plainR cs)) (takeR (Nat.mul 0 es) l1)) (dropR off l)) (Nat.ble mn vv)) = some v' := h
    obtain ⟨l, ver, mn, h1, h2⟩ := cellsOf_some h
    obtain ⟨h3, h4⟩ := brec_some h2
    obtain ⟨l1, h5, h6⟩ := orec_some' h4
    obtain ⟨cs, h7, h8⟩ := orec_some' h6
    obtain ⟨h9, h10⟩ := brec_some h8
    simp only [Option.some.injEq] at h10; subst h10
    obtain ⟨q3, q4⟩ := takeR_ok _ _ h7
    have : cs = [] := by
      rw [q4, show Nat.mul 0 es = 0 from Nat.zero_mul es]; simp
    subst this
    exact .psl (fun j x e => by simp at e) (Nat.le_refl _)

theorem viewL_ok (hrel : Rel R (H[·]?) w) : ∀ {l l' : List V} {xs : List Value}, VRL R l xs → viewL (H[·]?) l = some l' → VRL (Ren.view w) l' xs
  | [], l', _, .nil, h => by
    cases (show some [] = some l' from h); exact .nil
  | v :: l, l', _, .cons a b, h => by
    have h : (Option.rec (motive := fun _ => Option (List V)) none (fun x => Option.rec (motive := fun _ => Option (List V)) none (fun r => some (x :: r)) (viewL (H[·]?) l)) (viewV (H[·]?) v)) = some l' := h
    obtain ⟨x, h1, h2⟩ := orec_some' h
    obtain ⟨r, h3, h4⟩ := orec_some' h2
    simp only [Option.some.injEq] at h4; subst h4
    exact .cons (viewV_ok hrel a h1) (viewL_ok hrel b h3)

theorem viewA_ok (hrel : Rel R (H[·]?) w) {v v' : V} {x : Value} (hv : VR R v x) (h : viewA (H[·]?) v = some v') : VR (Ren.view w) v' x := by
  cases hv with
  | bool b => cases (show some (V.bool b) = some v' from h); constructor
  | int k n => cases (show some (V.int k n) = some v' from h); constructor
  | str s => cases (show some (V.str s) = some v' from h); constructor
  | nilptr => cases (show some V.nilptr = some v' from h); constructor
  | nils => cases (show some V.nils = some v' from h); constructor
  | nilmap => cases (show some V.nilmap = some v' from h); constructor
  | nilfn => cases (show some V.nilfn = some v' from h); constructor
  | nilif => cases (show some V.nilif = some v' from h); constructor
  | emp0 =>
    cases (show some (V.psl 0 []) = some v' from h)
    exact .psl (fun j x e => by simp at e) (Nat.le_refl _)
  | ptr | pptr | psl | map | fn | iface | tup => exact absurd (show (none : Option V) = some v' from h) (by simp)
  | slice e1 e2 e3 e4 e5 e6 => exact viewV_ok hrel (.slice e1 e2 e3 e4 e5 e6) h
  | slice0 e1 e2 e3 e4 => exact viewV_ok hrel (.slice0 e1 e2 e3 e4) h
  | agg hl =>
    rename_i l cs
    have h : (Option.rec (motive := fun _ => Option V) none (fun r => some (V.agg r)) (viewL (H[·]?) l)) = some v' := h
    obtain ⟨r, h1, h2⟩ := orec_some' h
    simp only [Option.some.injEq] at h2; subst h2
    exact .agg (viewL_ok hrel hl h1)

theorem views_ok (hrel : Rel R (H[·]?) w) : ∀ {l l' : List V} {xs : List Value}, VRL R l xs → views (H[·]?) l = some l' → VRL (Ren.view w) l' xs
  | [], l', _, .nil, h => by
    cases (show some [] = some l' from h); exact .nil
  | v :: l, l', _, .cons a b, h => by
    have h : (Option.rec (motive := fun _ => Option (List V)) none (fun x => Option.rec (motive := fun _ => Option (List V)) none (fun r => some (x :: r)) (views (H[·]?) l)) (viewA (H[·]?) v)) = some l' := h
    obtain ⟨x, h1, h2⟩ := orec_some' h
    obtain ⟨r, h3, h4⟩ := orec_some' h2
    simp only [Option.some.injEq] at h4; subst h4
    exact .cons (viewA_ok hrel a h1) (views_ok hrel b h3)

end

/-! ### answers -/

/-- A plain value; or a new slice of plain cells. -/
inductive TR where
  | val (v : V)
  | row (len es : Nat) (cap : Option Nat) (cs : List V)

/-- Is that what came back? 'g': the heap behind the call. -/
def TR.fits (g : Nat → Option Box) : TR → V → Prop
  | .val a, v => v = a ∧ V.plain a = true
  | .row len es cap cs, v => ∃ b x l ver mn, v = .slice b x 0 len es cap ∧ 0 < len ∧ g b = some (.cells l ver mn) ∧ mn ≤ x ∧ len * es ≤ l.length ∧ cs = l.take (len * es) ∧ plainR cs = true

def TR.gives (m : Nat) : TR → V × Upd
  | .val v => (v, .same)
  | .row len es cap cs => (.slice m 0 0 len es cap, .push (.cells cs 0 0))

/-- WHAT IS RECKONED FROM THE VIEWED ARGUMENTS IN AN EMPTY HEAP HOLDS WHEREVER THE ARGUMENTS ARE VIEWED SO. -/
theorem view_ok {P : Program} {f : FuncId} {F : List V → Heap → Option (V × Heap)} (hF : CallOK P f F) {as : List V} {r : TR} {v1 : V} {L1 : Heap} (h1 : F as [] = some (v1, L1)) (hr : r.fits (L1[·]?) v1)
    {R : Ren} {H : Heap} {w : World} {args : List V} {args' : Array Value} (hargs : VRL R args args'.toList) (hrel : Rel R (H[·]?) w) (hv : views (H[·]?) args = some as) :
    callable P f = true ∧ Calls P f args' w fun e w' => ∃ v' R', e = .returned v' ∧ StepR R w R' w' ∧ Rel R' (((r.gives H.length).2.on H)[·]?) w' ∧ VR R' (r.gives H.length).1 v' ∧ StepH R H R' ((r.gives H.length).2.on H) := by
  obtain ⟨g1, g2⟩ := hF (Ren.view w) [] L1 w as args' v1 h1 (views_ok hrel hargs hv) (Rel.view _ _)
  refine ⟨g1, g2.mono ?_⟩
  rintro e w' ⟨v', R', rfl, s1, s2, s3, s4⟩
  have hk : ∀ r, r < w.heap.size → w'.heap[r]? = w.heap[r]? := fun r hr => s1.keep r hr (fun _ _ _ h => by simp [Ren.view] at h) (fun _ h => by simp [Ren.view] at h)
  cases r with
  | val a =>
    obtain ⟨rfl, hp⟩ := hr
    exact ⟨v', R, rfl, ⟨.refl R, s1.os, s1.tape, s1.output, s1.size, fun r hr _ _ => hk r hr, fun _ v L h => .inl ⟨v, L, h, rfl⟩, fun _ _ h => .inl h, fun _ _ _ h => .inl h⟩, hrel.stood hk, s3.plain hp, .refl R H⟩
  | row len es cap cs =>
    obtain ⟨b, x, l, ver, mn, rfl, hlen, hg, hmn, hll, rfl, hpl⟩ := hr
    cases s3 with
    | slice0 => omega
    | slice e1 e2 e3 e4 e5 e6 =>
      rename_i c Lo
      obtain ⟨l', ver', mn', cc, t, hg', hone, hlk⟩ := s2.loc _ _ _ e1
      have hg' : L1[b]? = some (.cells l' ver' mn') := hg'
      have hg : L1[b]? = some (.cells l ver mn) := hg
      rw [hg] at hg'
      simp only [Option.some.injEq, Box.cells.injEq] at hg'
      obtain ⟨rfl, rfl, rfl⟩ := hg'
      have hlo : Lo.lo = 0 := by omega
      have hnew : w.heap.size ≤ Lo.r := by
        rcases s1.new _ _ _ e1 with ⟨_, _, h, _⟩ | h
        · simp [Ren.view] at h
        · exact h
      have hb := hrel.none_of_get (b := H.length) (by simp)
      have hfit := hlk.fit
      have hn := hlk.n
      have hcl : (l.take (len * es)).length = len * es := by simp; omega
      obtain ⟨q1, q2⟩ := hrel.place (g' := ((H ++ [Box.cells (l.take (len * es)) 0 0])[·]?)) hb.1 hb.2 (cs := l.take (len * es)) (c := cc) (t := t) (by simp)
        (fun k hk hd => by
          have hlt : k < H.length := by
            rcases hd with ⟨v, L, e⟩ | ⟨r, e⟩
            · obtain ⟨_, _, _, _, _, hg, _⟩ := hrel.loc k v L e
              exact (List.getElem?_eq_some_iff.1 hg).1
            · obtain ⟨_, _, _, hg, _⟩ := hrel.mp k r e
              exact (List.getElem?_eq_some_iff.1 hg).1
          simp [List.getElem?_append_left hlt])
        (List.all_eq_true.2 fun y hy => plain1_one (plainR_all hpl y hy))
        (by rw [hcl]; omega)
        (by
          refine VRL.of_get (by simp; omega) fun j y hy => ?_
          have hj : j < len * es := by
            have := (List.getElem?_eq_some_iff.1 hy).1
            rw [hcl] at this; exact this
          have hy' : l[j]? = some y := by rw [List.getElem?_take, if_pos hj] at hy; exact hy
          obtain ⟨z, hz, hyz⟩ := hlk.cell hmn j y (by omega) (by omega) hy'
          refine ⟨z, ?_, hyz.plain (plain1_plain (plainR_all hpl y (List.mem_of_getElem? hy)))⟩
          rw [hcl, List.getElem?_take, if_pos hj, Array.getElem?_toList, ← hz]
          congr 1; omega)
        s1.os s1.tape s1.output s1.size hk hnew hlk.blk
      refine ⟨_, _, rfl, q2, q1, ?_, .push _ fun k hk => Ren.addLoc_dom hk⟩
      rw [show (0 : Nat) - Lo.lo = 0 by omega]
      refine VR.slice (L := ⟨Lo.r, 0, (l.take (len * es)).length, cc.size⟩) (Ren.addLoc_self _ _ _ _) (Nat.zero_le _) ?_ e4 e5 (fun hc => ?_)
      · simp only [hcl]; omega
      · have := e6 hc
        simp only; omega

end Go.PE

namespace Go.PE

/-! ### comparing at small cost -/

noncomputable def V.onStr (α : Type) (v : V) : (ByteArray → Option α) → Option α :=
  V.rec (motive_1 := fun _ => (ByteArray → Option α) → Option α) (motive_2 := fun _ => Unit) (fun _ _ => none) (fun _ _ _ => none) (fun s c => c s) (fun _ _ _ _ _ => none) (fun _ => none) (fun _ _ _ => none)
    (fun _ _ _ _ _ _ _ => none) (fun _ => none) (fun _ => none) (fun _ _ _ _ => none) (fun _ _ => none) (fun _ => none) (fun _ _ _ _ _ _ => none) (fun _ => none) (fun _ _ _ _ => none) (fun _ => none) (fun _ _ _ => none) (fun _ _ _ => none)
    () (fun _ _ _ _ => ()) v

noncomputable def V.onPsl (α : Type) (v : V) : (Nat → List V → Option α) → Option α :=
  V.rec (motive_1 := fun _ => (Nat → List V → Option α) → Option α) (motive_2 := fun _ => Unit) (fun _ _ => none) (fun _ _ _ => none) (fun _ _ => none) (fun _ _ _ _ _ => none) (fun _ => none) (fun _ _ _ => none)
    (fun _ _ _ _ _ _ _ => none) (fun _ => none) (fun _ => none) (fun n l _ c => c n l) (fun _ _ => none) (fun _ => none) (fun _ _ _ _ _ _ => none) (fun _ => none) (fun _ _ _ _ => none) (fun _ => none) (fun _ _ _ => none) (fun _ _ _ => none)
    () (fun _ _ _ _ => ()) v

/-- The kinds of nothing. -/
noncomputable def nilTag (v : V) : Nat :=
  V.rec (motive_1 := fun _ => Nat) (motive_2 := fun _ => Unit) (fun _ => 0) (fun _ _ => 0) (fun _ => 0) (fun _ _ _ _ => 0) 1 (fun _ _ => 0)
    (fun _ _ _ _ _ _ => 0) 2 0 (fun _ _ _ => 0) (fun _ => 0) 3 (fun _ _ _ _ _ => 0) 4 (fun _ _ _ => 0) 5 (fun _ _ => 0) (fun _ _ => 0)
    () (fun _ _ _ _ => ()) v

theorem nilTag_1 {b : V} (h : nilTag b = 1) : V.nilptr = b := by
  cases b <;> first | rfl | (exact absurd (show (0 : Nat) = 1 from h) (by decide)) | (exact absurd (show (2 : Nat) = 1 from h) (by decide)) | (exact absurd (show (3 : Nat) = 1 from h) (by decide)) | (exact absurd (show (4 : Nat) = 1 from h) (by decide)) | (exact absurd (show (5 : Nat) = 1 from h) (by decide))
theorem nilTag_2 {b : V} (h : nilTag b = 2) : V.nils = b := by
  cases b <;> first | rfl | (exact absurd (show (0 : Nat) = 2 from h) (by decide)) | (exact absurd (show (1 : Nat) = 2 from h) (by decide)) | (exact absurd (show (3 : Nat) = 2 from h) (by decide)) | (exact absurd (show (4 : Nat) = 2 from h) (by decide)) | (exact absurd (show (5 : Nat) = 2 from h) (by decide))
theorem nilTag_3 {b : V} (h : nilTag b = 3) : V.nilmap = b := by
  cases b <;> first | rfl | (exact absurd (show (0 : Nat) = 3 from h) (by decide)) | (exact absurd (show (1 : Nat) = 3 from h) (by decide)) | (exact absurd (show (2 : Nat) = 3 from h) (by decide)) | (exact absurd (show (4 : Nat) = 3 from h) (by decide)) | (exact absurd (show (5 : Nat) = 3 from h) (by decide))
theorem nilTag_4 {b : V} (h : nilTag b = 4) : V.nilfn = b := by
  cases b <;> first | rfl | (exact absurd (show (0 : Nat) = 4 from h) (by decide)) | (exact absurd (show (1 : Nat) = 4 from h) (by decide)) | (exact absurd (show (2 : Nat) = 4 from h) (by decide)) | (exact absurd (show (3 : Nat) = 4 from h) (by decide)) | (exact absurd (show (5 : Nat) = 4 from h) (by decide))
theorem nilTag_5 {b : V} (h : nilTag b = 5) : V.nilif = b := by
  cases b <;> first | rfl | (exact absurd (show (0 : Nat) = 5 from h) (by decide)) | (exact absurd (show (1 : Nat) = 5 from h) (by decide)) | (exact absurd (show (2 : Nat) = 5 from h) (by decide)) | (exact absurd (show (3 : Nat) = 5 from h) (by decide)) | (exact absurd (show (4 : Nat) = 5 from h) (by decide))

theorem V.onStr_some {α : Type} {v : V} {c : ByteArray → Option α} {r : α} (h : v.onStr α c = some r) : ∃ s, v = .str s ∧ c s = some r := by
  cases v <;> first | exact ⟨_, rfl, h⟩ | (exact absurd (show (none : Option α) = some r from h) (by simp))

noncomputable def eqBytes (a : List UInt8) : List UInt8 → Option Unit :=
  List.rec (motive := fun _ => List UInt8 → Option Unit) (fun b => List.rec (motive := fun _ => Option Unit) (some ()) (fun _ _ _ => none) b)
    (fun x _ ih b => List.rec (motive := fun _ => Option Unit) none (fun y t _ => Bool.rec none (ih t) (Nat.beq x.toNat y.toNat)) b) a

theorem eqBytes_ok : ∀ {a b : List UInt8}, eqBytes a b = some () → a = b
  | [], [], _ => rfl
  | [], _ :: _, h => absurd (show (none : Option Unit) = some () from h) (by simp)
  | _ :: _, [], h => absurd (show (none : Option Unit) = some () from h) (by simp)
  | x :: a, y :: b, h => by
    obtain ⟨h1, h2⟩ := brec_some (show (Bool.rec (motive := fun _ => Option Unit) none (eqBytes a b) (Nat.beq x.toNat y.toNat)) = some () from h)
    have := Nat.eq_of_beq_eq_true h1
    rw [UInt8.toNat_inj.1 this, eqBytes_ok h2]

/-- Are two cells of plain data the same? -/
noncomputable def eqC (a b : V) : Option Unit :=
  V.rec (motive_1 := fun _ => Option Unit) (motive_2 := fun _ => Unit)
    (fun x => b.onBool Unit fun y => Bool.rec (Bool.rec (some ()) none y) (Bool.rec none (some ()) y) x)
    (fun k n => b.onInt Unit fun k' m => Bool.rec none (Bool.rec none (some ()) (intBeq n m)) (kEq k k'))
    (fun s => b.onStr Unit fun s' => eqBytes s.data.toList s'.data.toList)
    (fun _ _ _ _ => none) (Bool.rec none (some ()) (Nat.beq 1 (nilTag b))) (fun _ _ => none)
    (fun _ _ _ _ _ _ => none) (Bool.rec none (some ()) (Nat.beq 2 (nilTag b))) none (fun _ _ _ => none) (fun _ => none) (Bool.rec none (some ()) (Nat.beq 3 (nilTag b))) (fun _ _ _ _ _ => none)
    (Bool.rec none (some ()) (Nat.beq 4 (nilTag b))) (fun _ _ _ => none) (Bool.rec none (some ()) (Nat.beq 5 (nilTag b))) (fun _ _ => none) (fun _ _ => none)
    () (fun _ _ _ _ => ()) a

theorem tagged {k : Nat} {b : V} (h : (Bool.rec (motive := fun _ => Option Unit) none (some ()) (Nat.beq k (nilTag b))) = some ()) : nilTag b = k := (Nat.eq_of_beq_eq_true (brec_some h).1).symm

theorem eqC_ok {a b : V} (h : eqC a b = some ()) : a = b := by
  cases a with
  | bool x =>
    obtain ⟨y, h1, h2⟩ := V.onBool_some (show (b.onBool Unit fun y => Bool.rec (motive := fun _ => Option Unit) (Bool.rec (motive := fun _ => Option Unit) (some ()) none y) (Bool.rec (motive := fun _ => Option Unit) none (some ()) y) x) = some () from h)
    rw [h1]
    cases x <;> cases y <;> first | rfl | (exact absurd (show (none : Option Unit) = some () from h2) (by simp))
  | int k n =>
    obtain ⟨k', m, h1, h2⟩ := V.onInt_some (show (b.onInt Unit fun k' m => Bool.rec (motive := fun _ => Option Unit) none (Bool.rec (motive := fun _ => Option Unit) none (some ()) (intBeq n m)) (kEq k k')) = some () from h)
    obtain ⟨h3, h4⟩ := brec_some h2
    obtain ⟨h5, _⟩ := brec_some h4
    rw [intBeq_eq] at h5
    rw [h1, kEq_eq h3, beq_iff_eq.1 h5]
  | str s =>
    obtain ⟨s', h1, h2⟩ := V.onStr_some (show (b.onStr Unit fun s' => eqBytes s.data.toList s'.data.toList) = some () from h)
    have h3 := eqBytes_ok h2
    have h4 : s.data = s'.data := Array.toList_inj.1 h3
    rw [h1]
    exact congrArg V.str (ByteArray.ext h4)
  | nilptr => exact nilTag_1 (tagged h)
  | nils => exact nilTag_2 (tagged h)
  | nilmap => exact nilTag_3 (tagged h)
  | nilfn => exact nilTag_4 (tagged h)
  | nilif => exact nilTag_5 (tagged h)
  | ptr | pptr | slice | emp0 | psl | map | fn | iface | agg | tup => exact absurd (show (none : Option Unit) = some () from h) (by simp)

noncomputable def eqCL (a : List V) : List V → Option Unit :=
  List.rec (motive := fun _ => List V → Option Unit) (fun b => List.rec (motive := fun _ => Option Unit) (some ()) (fun _ _ _ => none) b)
    (fun x _ ih b => List.rec (motive := fun _ => Option Unit) none (fun y t _ => Option.rec none (fun _ => ih t) (eqC x y)) b) a

theorem eqCL_ok : ∀ {a b : List V}, eqCL a b = some () → a = b
  | [], [], _ => rfl
  | [], _ :: _, h => absurd (show (none : Option Unit) = some () from h) (by simp)
  | _ :: _, [], h => absurd (show (none : Option Unit) = some () from h) (by simp)
  | x :: a, y :: b, h => by
    obtain ⟨_, h1, h2⟩ := orec_some' (show (Option.rec (motive := fun _ => Option Unit) none (fun _ => eqCL a b) (eqC x y)) = some () from h)
    rw [eqC_ok h1, eqCL_ok h2]

/-- .. a cell, or a slice with its cells. -/
noncomputable def eqS (a b : V) : Option Unit :=
  Option.rec (a.onPsl Unit fun n l => b.onPsl Unit fun m l' => Bool.rec none (eqCL l l') (Nat.beq n m)) (fun u => some u) (eqC a b)

theorem V.onPsl_some {α : Type} {v : V} {c : Nat → List V → Option α} {r : α} (h : v.onPsl α c = some r) : ∃ n l, v = .psl n l ∧ c n l = some r := by
  cases v <;> first | exact ⟨_, _, rfl, h⟩ | (exact absurd (show (none : Option α) = some r from h) (by simp))

theorem eqS_ok {a b : V} (h : eqS a b = some ()) : a = b := by
  unfold eqS at h
  cases hc : eqC a b with
  | some u => exact eqC_ok hc
  | none =>
    rw [hc] at h
    obtain ⟨n, l, h1, h2⟩ := V.onPsl_some h
    obtain ⟨m, l', h3, h4⟩ := V.onPsl_some h2
    obtain ⟨h5, h6⟩ := brec_some h4
    rw [h1, h3, Nat.eq_of_beq_eq_true h5, eqCL_ok h6]

noncomputable def eqSL (a : List V) : List V → Option Unit :=
  List.rec (motive := fun _ => List V → Option Unit) (fun b => List.rec (motive := fun _ => Option Unit) (some ()) (fun _ _ _ => none) b)
    (fun x _ ih b => List.rec (motive := fun _ => Option Unit) none (fun y t _ => Option.rec none (fun _ => ih t) (eqS x y)) b) a

theorem eqSL_ok : ∀ {a b : List V}, eqSL a b = some () → a = b
  | [], [], _ => rfl
  | [], _ :: _, h => absurd (show (none : Option Unit) = some () from h) (by simp)
  | _ :: _, [], h => absurd (show (none : Option Unit) = some () from h) (by simp)
  | x :: a, y :: b, h => by
    obtain ⟨_, h1, h2⟩ := orec_some' (show (Option.rec (motive := fun _ => Option Unit) none (fun _ => eqSL a b) (eqS x y)) = some () from h)
    rw [eqS_ok h1, eqSL_ok h2]

/-- .. an argument. -/
noncomputable def eqA (a b : V) : Option Unit :=
  Option.rec (eqS a b) (fun u => some u) (a.onAgg Unit fun l => b.onAgg Unit fun l' => eqSL l l')

theorem eqA_ok {a b : V} (h : eqA a b = some ()) : a = b := by
  unfold eqA at h
  cases hc : (a.onAgg Unit fun l => b.onAgg Unit fun l' => eqSL l l') with
  | some u =>
    obtain ⟨l, h1, h2⟩ := V.onAgg_some hc
    obtain ⟨l', h3, h4⟩ := V.onAgg_some h2
    rw [h1, h3, eqSL_ok h4]
  | none => rw [hc] at h; exact eqS_ok h

noncomputable def eqAL (a : List V) : List V → Option Unit :=
  List.rec (motive := fun _ => List V → Option Unit) (fun b => List.rec (motive := fun _ => Option Unit) (some ()) (fun _ _ _ => none) b)
    (fun x _ ih b => List.rec (motive := fun _ => Option Unit) none (fun y t _ => Option.rec none (fun _ => ih t) (eqA x y)) b) a

theorem eqAL_ok : ∀ {a b : List V}, eqAL a b = some () → a = b
  | [], [], _ => rfl
  | [], _ :: _, h => absurd (show (none : Option Unit) = some () from h) (by simp)
  | _ :: _, [], h => absurd (show (none : Option Unit) = some () from h) (by simp)
  | x :: a, y :: b, h => by
    obtain ⟨_, h1, h2⟩ := orec_some' (show (Option.rec (motive := fun _ => Option Unit) none (fun _ => eqAL a b) (eqA x y)) = some () from h)
    rw [eqA_ok h1, eqAL_ok h2]

/-! ### tables -/

/-- A number made of the first cells of the arguments. -/
noncomputable def keyC (v : V) : Nat :=
  V.rec (motive_1 := fun _ => Nat) (motive_2 := fun _ => Unit) (fun b => Bool.rec 0 1 b) (fun _ n => Int.rec (motive := fun _ => Nat) (fun m => m) (fun _ => 0) n) (fun _ => 0) (fun _ _ _ _ => 0) 0 (fun _ _ => 0)
    (fun _ _ _ _ _ _ => 0) 0 0 (fun n _ _ => n) (fun _ => 0) 0 (fun _ _ _ _ _ => 0) 0 (fun _ _ _ => 0) 0 (fun _ _ => 0) (fun _ _ => 0)
    () (fun _ _ _ _ => ()) v

/-- Σ 31^i c_i over the first n cells. -/
noncomputable def keyL (n : Nat) : List V → Nat :=
  Nat.rec (motive := fun _ => List V → Nat) (fun _ => 0) (fun _ ih l => List.rec (motive := fun _ => Nat) 0 (fun h t _ => Nat.add (keyC h) (Nat.mul 31 (ih t))) l) n

noncomputable def keyA (n : Nat) (v : V) : Nat := Option.rec (keyC v) (fun k => k) (v.onAgg Nat fun l => some (keyL n l))

noncomputable def keyAL (n : Nat) (l : List V) : Nat := List.rec (motive := fun _ => Nat) 0 (fun h _ ih => Nat.add (keyA n h) (Nat.mul 31 ih)) l

abbrev Ent := List V × TR
/-- A function's table: entries by their numbers modulo 1024. -/
abbrev Tab := Tn (List Ent)

noncomputable def findT (as : List V) (l : List Ent) : Option TR :=
  List.rec (motive := fun _ => Option TR) none (fun p _ ih => Option.rec ih (fun _ => some p.2) (eqAL p.1 as)) l

theorem findT_ok {as : List V} : ∀ {l : List Ent} {r : TR}, findT as l = some r → (as, r) ∈ l
  | [], r, h => absurd (show (none : Option TR) = some r from h) (by simp)
  | p :: l, r, h => by
    have h : (Option.rec (motive := fun _ => Option TR) (findT as l) (fun _ => some p.2) (eqAL p.1 as)) = some r := h
    cases he : eqAL p.1 as with
    | none => rw [he] at h; exact List.mem_cons_of_mem _ (findT_ok h)
    | some u =>
      rw [he] at h
      have h : some p.2 = some r := h
      simp only [Option.some.injEq] at h
      have hp := eqAL_ok he
      rw [← hp, ← h]
      exact List.mem_cons_self ..

noncomputable def putT (n : Nat) (t : Tab) (p : Ent) : Tab :=
  Tn.set 12 t (Nat.mod (keyAL n p.1) 1024) (Option.rec [p] (fun l => p :: l) (t.get (Nat.mod (keyAL n p.1) 1024)))

/-- The table that holds some entries. -/
noncomputable def tabOf (n : Nat) (l : List Ent) : Tab := List.rec (motive := fun _ => Tab) .nil (fun p _ ih => putT n ih p) l

theorem tabOf_ok {n : Nat} : ∀ {l : List Ent} {k : Nat} {b : List Ent}, (tabOf n l).get k = some b → ∀ p ∈ b, p ∈ l
  | [], k, b, h => absurd (show (none : Option (List Ent)) = some b from h) (by simp)
  | q :: l, k, b, h => by
    have h : (Tn.set 12 (tabOf n l) (Nat.mod (keyAL n q.1) 1024) (Option.rec (motive := fun _ => List Ent) [q] (fun l => q :: l) ((tabOf n l).get (Nat.mod (keyAL n q.1) 1024)))).get k = some b := h
    have hm : Nat.mod (keyAL n q.1) 1024 < 1024 := Nat.mod_lt _ (by decide)
    rw [Tn.get_set 12 _ _ _ (by omega)] at h
    intro p hp
    split at h
    · simp only [Option.some.injEq] at h
      subst h
      cases hg : (tabOf n l).get (Nat.mod (keyAL n q.1) 1024) with
      | none =>
        rw [hg] at hp
        have hp : p ∈ [q] := hp
        simp only [List.mem_singleton] at hp
        subst hp; exact List.mem_cons_self ..
      | some b' =>
        rw [hg] at hp
        have hp : p ∈ q :: b' := hp
        rcases List.mem_cons.1 hp with rfl | hp
        · exact List.mem_cons_self ..
        · exact List.mem_cons_of_mem _ (tabOf_ok hg p hp)
    · exact List.mem_cons_of_mem _ (tabOf_ok h p hp)

noncomputable def lookT (n : Nat) (t : Tab) (as : List V) : Option TR := Option.rec none (fun l => findT as l) (t.get (Nat.mod (keyAL n as) 1024))

theorem lookT_ok {n : Nat} {l : List Ent} {as : List V} {r : TR} (h : lookT n (tabOf n l) as = some r) : (as, r) ∈ l := by
  obtain ⟨b, h1, h2⟩ := orec_some' h
  exact tabOf_ok h1 _ (findT_ok h2)

/-- A function's shortcut by its table; else another shortcut. -/
noncomputable def tabG (f0 : FuncId) (n : Nat) (t : Tab) (G : HeapS) : HeapS := fun f args g m =>
  Bool.rec (G f args g m) (Option.rec none (fun as => Option.rec none (fun r => some (r.gives m)) (lookT n t as)) (views g args)) (Nat.beq f f0)

/-- What a run must have shown of an entry. -/
def EntOK (F : List V → Heap → Option (V × Heap)) (p : Ent) : Prop := ∃ v L, F p.1 [] = some (v, L) ∧ p.2.fits (L[·]?) v

theorem tabG_ok {P : Program} {f0 : FuncId} {F : List V → Heap → Option (V × Heap)} (hF : CallOK P f0 F) {n : Nat} {l : List Ent} (hl : ∀ p ∈ l, EntOK F p) {G : HeapS} (hG : ∀ f, CallOK P f (heapE G f)) (f : FuncId) :
    CallOK P f (heapE (tabG f0 n (tabOf n l) G) f) := by
  intro R H H' w args args' v h hargs hrel
  by_cases hf : Nat.beq f f0 = true
  · unfold heapE at h
    rw [Option.map_eq_some_iff] at h
    obtain ⟨p, h, hp⟩ := h
    unfold tabG at h
    rw [hf] at h
    obtain ⟨as, h1, h2⟩ := orec_some' h
    obtain ⟨r, h3, h4⟩ := orec_some' h2
    simp only [Option.some.injEq] at h4; subst h4
    obtain ⟨v1, L1, h5, h6⟩ := hl _ (lookT_ok h3)
    have hf := Nat.eq_of_beq_eq_true hf
    subst hf
    simp only [Upd.done, Prod.mk.injEq] at hp
    obtain ⟨rfl, rfl⟩ := hp
    exact view_ok hF h5 h6 hargs hrel h1
  · have hf : Nat.beq f f0 = false := Bool.eq_false_iff.2 hf
    refine hG f R H H' w args args' v ?_ hargs hrel
    unfold heapE at h ⊢
    unfold tabG at h
    rw [hf] at h
    exact h

/-! ### an entry, checked by a run -/

noncomputable def TR.check (g : Nat → Option Box) (r : TR) (v : V) : Bool :=
  match r with
  | .val a => V.beq v a && V.plain a
  | .row len es cap cs =>
    match v with
    | .slice b x 0 n e c => decide (n = len) && decide (e = es) && decide (c = cap) && Nat.blt 0 len &&
      (match g b with
      | some (.cells l _ mn) => Nat.ble mn x && (Option.rec false (fun cs' => Option.rec false (fun _ => plainR cs) (eqCL cs cs')) (takeR (len * es) l))
      | _ => false)
    | _ => false

theorem TR.check_ok {g : Nat → Option Box} {r : TR} {v : V} (h : r.check g v = true) : r.fits g v := by
  cases r with
  | val a =>
    simp only [TR.check, Bool.and_eq_true] at h
    exact ⟨V.beq_eq _ _ h.1, h.2⟩
  | row len es cap cs =>
    simp only [TR.check] at h
    split at h
    · rename_i b x n e c
      simp only [Bool.and_eq_true, decide_eq_true_eq] at h
      obtain ⟨⟨⟨⟨rfl, rfl⟩, rfl⟩, h4⟩, h5⟩ := h
      split at h5
      · rename_i l ver mn hg
        simp only [Bool.and_eq_true] at h5
        obtain ⟨h6, h7⟩ := h5
        cases ht : takeR (n * e) l with
        | none => rw [ht] at h7; exact absurd (show false = true from h7) (by simp)
        | some cs' =>
          rw [ht] at h7
          have h7 : (Option.rec (motive := fun _ => Bool) false (fun _ => plainR cs) (eqCL cs cs')) = true := h7
          cases he : eqCL cs cs' with
          | none => rw [he] at h7; exact absurd (show false = true from h7) (by simp)
          | some u =>
            rw [he] at h7
            have h8 : plainR cs = true := h7
            have hcs := eqCL_ok he
            obtain ⟨q1, q2⟩ := takeR_ok _ _ ht
            exact ⟨b, x, l, ver, mn, rfl, Nat.le_of_ble_eq_true h4, hg, Nat.le_of_ble_eq_true h6, q1, hcs.trans q2, h8⟩
      · simp at h5
    · simp at h

noncomputable def entB (X : CtxK) (f : FuncId) (p : Ent) : Bool := Option.rec false (fun q => p.2.check q.2.get q.1) (X f p.1 ⟨.nil, 0⟩)

theorem ent_of_run {fs : FuncId → Option EFunc} {T : FuncId → List V → Option V} {G : HeapS} {rounds d : Nat} {f : FuncId} {p : Ent} (h : entB (ctxH fs T G rounds d) f p = true) : EntOK (ctxE fs (shortE T G) rounds d f) p := by
  unfold entB at h
  cases hx : ctxH fs T G rounds d f p.1 ⟨.nil, 0⟩ with
  | none => rw [hx] at h; exact absurd (show false = true from h) (by simp)
  | some q =>
    rw [hx] at h
    have h : p.2.check q.2.get q.1 = true := h
    obtain ⟨L, h1, h2⟩ := ctxH_sim (fs := fs) (T := T) (G := G) (rounds := rounds) d f p.1 ⟨.nil, 0⟩ q.2 [] q.1 HIs.empty hx
    refine ⟨q.1, L, h1, ?_⟩
    have h3 := TR.check_ok h
    rw [h2.got] at h3
    exact h3

/-- Cells, with some of them others: (how many cells further, the cell). -/
noncomputable def patch (ps : List (Nat × V)) : List V → List V :=
  List.rec (motive := fun _ => List V → List V) (fun l => l)
    (fun p _ ih => Nat.rec (motive := fun _ => List V → List V) (fun l => List.rec (motive := fun _ => List V) [] (fun _ t _ => p.2 :: ih t) l)
      (fun _ jh l => List.rec (motive := fun _ => List V) [] (fun h t _ => h :: jh t) l) p.1) ps

end Go.PE

namespace Go.PE
open Go.RowKit

/-- Does the run answer true? -/
noncomputable def trueB (X : CtxK) (f : FuncId) (args : List V) : Bool := Option.rec false (fun p => V.beq p.1 (.bool true)) (X f args ⟨.nil, 0⟩)

theorem law_of_trueB {fs : FuncId → Option EFunc} {T : FuncId → List V → Option V} {G : HeapS} {rounds d : Nat} {f : FuncId} {args : List V} (h : trueB (ctxH fs T G rounds d) f args = true) :
    ∃ L, ctxE fs (shortE T G) rounds d f args [] = some (.bool true, L) := by
  unfold trueB at h
  cases hx : ctxH fs T G rounds d f args ⟨.nil, 0⟩ with
  | none => rw [hx] at h; exact absurd (show false = true from h) (by simp)
  | some p =>
    rw [hx] at h
    have hb := V.beq_eq _ _ (show V.beq p.1 (.bool true) = true from h)
    obtain ⟨L, h3, _⟩ := ctxH_sim (fs := fs) (T := T) (G := G) (rounds := rounds) d f args ⟨.nil, 0⟩ p.2 [] p.1 HIs.empty hx
    exact ⟨L, by rw [h3, hb]⟩

/-- From plain arguments in an empty abstract heap: the call returns, and all that was there stands. -/
theorem calls_of_law {P : Program} {f : FuncId} {F : List V → Heap → Option (V × Heap)} (hF : CallOK P f F) {args : List V} {args' : Array Value} (hargs : VRL Ren.empty args args'.toList) {L : Heap} (h : F args [] = some (.bool true, L)) (W : World) :
    Calls P f args' W fun e W' => e = .returned (.bool true) ∧ Below W.heap.size W W' := by
  refine (hF Ren.empty [] L W args args' (.bool true) h hargs (Rel.empty _ _)).2.mono ?_
  rintro e W' ⟨v', R', rfl, r2, _, r4, _⟩
  cases r4
  exact ⟨rfl, r2.os, r2.tape, r2.output, r2.size, fun r hr => r2.keep r hr (fun _ _ _ h => by simp [Ren.empty] at h) (fun _ h => by simp [Ren.empty] at h)⟩

theorem tab1_ok {f0 : FuncId} {T : List (List V × V)} {P : Program} {F : List V → Heap → Option (V × Heap)} (h : CallOK P f0 F) (hT : ∀ p ∈ T, alone F p.1 = some p.2) {T' : FuncId → List V → Option V}
    (hT' : ∀ f, CallOK P f fun args H => (T' f args).map fun v => (v, H)) (f : FuncId) : CallOK P f fun args H => ((fun f args => cond (Nat.beq f f0) (tabE T args) (T' f args)) f args).map fun v => (v, H) := by
  by_cases hf : Nat.beq f f0 = true
  · have := Nat.eq_of_beq_eq_true hf
    subst this
    intro R H H' w args args' v hv
    simp only [hf, cond_true] at hv
    exact tab_ok h hT R H H' w args args' v hv
  · have hf : Nat.beq f f0 = false := Bool.eq_false_iff.2 hf
    intro R H H' w args args' v hv
    simp only [hf, cond_false] at hv
    exact hT' f R H H' w args args' v hv

theorem none_ok {P : Program} (f : FuncId) : CallOK P f fun args H => ((fun (_ : FuncId) (_ : List V) => (none : Option V)) f args).map fun v => (v, H) := by
  intro R H H' w args args' v h
  simp at h

theorem noneG_ok {P : Program} (f : FuncId) : CallOK P f (heapE (fun _ _ _ _ => none) f) := by
  intro R H H' w args args' v h
  simp [heapE] at h

theorem short_none {T : FuncId → List V → Option V} {G : HeapS} {f : FuncId} (h1 : ∀ args, T f args = none) (h2 : ∀ args g m, G f args g m = none) (args : List V) (H : Heap) : shortE T G f args H = none := by
  simp only [shortE, heapE, h1, h2, Option.map_none]

end Go.PE

namespace Go.PE
open Go.RowKit

mutual
/-- A value's boxes by their elder numbers. -/
def V.ren (π : Nat → Option Nat) : V → Option V
  | .bool b => some (.bool b)
  | .int k n => some (.int k n)
  | .str s => some (.str s)
  | .ptr b v o e => match π b with | some b => some (.ptr b v o e) | none => none
  | .nilptr => some .nilptr
  | .pptr _ => none
  | .slice b v o n es c => match π b with | some b => some (.slice b v o n es c) | none => none
  | .nils => some .nils
  | .emp0 => some .emp0
  | .psl _ _ => none
  | .map b => match π b with | some b => some (.map b) | none => none
  | .nilmap => some .nilmap
  | .fn f a c => match V.renL π a, V.renL π c with | some a, some c => some (.fn f a c) | _, _ => none
  | .nilfn => some .nilfn
  | .iface t v => match V.ren π v with | some v => some (.iface t v) | none => none
  | .nilif => some .nilif
  | .agg l => match V.renL π l with | some l => some (.agg l) | none => none
  | .tup l => match V.renL π l with | some l => some (.tup l) | none => none
def V.renL (π : Nat → Option Nat) : List V → Option (List V)
  | [] => some []
  | a :: l => match V.ren π a, V.renL π l with | some a, some l => some (a :: l) | _, _ => none
end

def Ren.map (R : Ren) (π : Nat → Option Nat) : Ren :=
  ⟨fun b v => match π b with | some b0 => R.loc b0 v | none => none, fun b => match π b with | some b0 => R.mp b0 | none => none, fun _ _ => none⟩

theorem Ren.map_loc {R : Ren} {π : Nat → Option Nat} {b v : Nat} {L : Loc} (h : (R.map π).loc b v = some L) : ∃ b0, π b = some b0 ∧ R.loc b0 v = some L := by
  simp only [Ren.map] at h
  split at h
  · rename_i b0 hb; exact ⟨b0, hb, h⟩
  · simp at h

theorem Ren.map_mp {R : Ren} {π : Nat → Option Nat} {b r : Nat} (h : (R.map π).mp b = some r) : ∃ b0, π b = some b0 ∧ R.mp b0 = some r := by
  simp only [Ren.map] at h
  split at h
  · rename_i b0 hb; exact ⟨b0, hb, h⟩
  · simp at h

section
variable {R : Ren} {π : Nat → Option Nat}

theorem Ren.map_loc_of {b b0 v : Nat} {L : Loc} (hb : π b = some b0) (h : R.loc b0 v = some L) : (R.map π).loc b v = some L := by
  simp only [Ren.map, hb]; exact h

theorem Ren.map_mp_of {b b0 r : Nat} (hb : π b = some b0) (h : R.mp b0 = some r) : (R.map π).mp b = some r := by
  simp only [Ren.map, hb]; exact h

mutual
theorem ren_vr : ∀ (v2 : V) {v : V} {x : Value}, V.ren π v2 = some v → VR R v x → VR (R.map π) v2 x
  | .bool b, v, x, h, hv => by simp only [V.ren, Option.some.injEq] at h; subst h; cases hv; constructor
  | .int k n, v, x, h, hv => by simp only [V.ren, Option.some.injEq] at h; subst h; cases hv; constructor
  | .str s, v, x, h, hv => by simp only [V.ren, Option.some.injEq] at h; subst h; cases hv; constructor
  | .nilptr, v, x, h, hv => by simp only [V.ren, Option.some.injEq] at h; subst h; cases hv; constructor
  | .nils, v, x, h, hv => by simp only [V.ren, Option.some.injEq] at h; subst h; cases hv; constructor
  | .emp0, v, x, h, hv => by simp only [V.ren, Option.some.injEq] at h; subst h; cases hv; constructor
  | .nilmap, v, x, h, hv => by simp only [V.ren, Option.some.injEq] at h; subst h; cases hv; constructor
  | .nilfn, v, x, h, hv => by simp only [V.ren, Option.some.injEq] at h; subst h; cases hv; constructor
  | .nilif, v, x, h, hv => by simp only [V.ren, Option.some.injEq] at h; subst h; cases hv; constructor
  | .pptr _, v, x, h, hv => by simp [V.ren] at h
  | .psl _ _, v, x, h, hv => by simp [V.ren] at h
  | .ptr b vv o e, v, x, h, hv => by
    simp only [V.ren] at h
    split at h
    · rename_i b0 hb
      simp only [Option.some.injEq] at h; subst h
      cases hv with
      | ptr e1 e2 e3 => exact .ptr (Ren.map_loc_of hb e1) e2 e3
    · simp at h
  | .slice b vv o n es c, v, x, h, hv => by
    simp only [V.ren] at h
    split at h
    · rename_i b0 hb
      simp only [Option.some.injEq] at h; subst h
      cases hv with
      | slice e1 e2 e3 e4 e5 e6 => exact .slice (Ren.map_loc_of hb e1) e2 e3 e4 e5 e6
      | slice0 e1 e2 e3 e4 => exact .slice0 (Ren.map_loc_of hb e1) e2 e3 e4
    · simp at h
  | .map b, v, x, h, hv => by
    simp only [V.ren] at h
    split at h
    · rename_i b0 hb
      simp only [Option.some.injEq] at h; subst h
      cases hv with
      | map e1 => exact .map (Ren.map_mp_of hb e1)
    · simp at h
  | .fn f a c, v, x, h, hv => by
    simp only [V.ren] at h
    split at h
    · rename_i a' c' ha hc
      simp only [Option.some.injEq] at h; subst h
      cases hv with
      | fn e1 e2 => exact .fn (ren_vrl a ha e1) (ren_vrl c hc e2)
    · simp at h
  | .iface t v2, v, x, h, hv => by
    simp only [V.ren] at h
    split at h
    · rename_i v' hv'
      simp only [Option.some.injEq] at h; subst h
      cases hv with
      | iface e1 => exact .iface (ren_vr v2 hv' e1)
    · simp at h
  | .agg l, v, x, h, hv => by
    simp only [V.ren] at h
    split at h
    · rename_i l' hl
      simp only [Option.some.injEq] at h; subst h
      cases hv with
      | agg e1 => exact .agg (ren_vrl l hl e1)
    · simp at h
  | .tup l, v, x, h, hv => by
    simp only [V.ren] at h
    split at h
    · rename_i l' hl
      simp only [Option.some.injEq] at h; subst h
      cases hv with
      | tup e1 => exact .tup (ren_vrl l hl e1)
    · simp at h
theorem ren_vrl : ∀ (l2 : List V) {l : List V} {xs : List Value}, V.renL π l2 = some l → VRL R l xs → VRL (R.map π) l2 xs
  | [], l, xs, h, hv => by simp only [V.renL, Option.some.injEq] at h; subst h; cases hv; exact .nil
  | a :: l2, l, xs, h, hv => by
    simp only [V.renL] at h
    split at h
    · rename_i a' l' ha hl
      simp only [Option.some.injEq] at h; subst h
      cases hv with
      | cons e1 e2 => exact .cons (ren_vr a ha e1) (ren_vrl l2 hl e2)
    · simp at h
end

theorem ren_one {v2 v : V} (h : V.ren π v2 = some v) : V.one v2 = V.one v := by
  cases v2 <;> simp only [V.ren] at h <;> first
    | (simp only [Option.some.injEq] at h; subst h; rfl)
    | (split at h <;> simp only [Option.some.injEq, reduceCtorEq] at h; subst h; rfl)
    | simp at h

theorem renL_len : ∀ {l2 l : List V}, V.renL π l2 = some l → l2.length = l.length
  | [], l, h => by simp only [V.renL, Option.some.injEq] at h; subst h; rfl
  | a :: l2, l, h => by
    simp only [V.renL] at h
    split at h
    · rename_i a' l' ha hl
      simp only [Option.some.injEq] at h; subst h
      simp [renL_len hl]
    · simp at h

theorem renL_get : ∀ {l2 l : List V}, V.renL π l2 = some l → ∀ {j : Nat} {x2 : V}, l2[j]? = some x2 → ∃ x, l[j]? = some x ∧ V.ren π x2 = some x
  | [], l, h, j, x2, hj => by simp at hj
  | a :: l2, l, h, j, x2, hj => by
    simp only [V.renL] at h
    split at h
    · rename_i a' l' ha hl
      simp only [Option.some.injEq] at h; subst h
      cases j with
      | zero => simp at hj; subst hj; exact ⟨a', rfl, ha⟩
      | succ j => simp only [List.getElem?_cons_succ] at hj ⊢; exact renL_get hl hj
    · simp at h

theorem renL_one : ∀ {l2 l : List V}, V.renL π l2 = some l → l.all V.one = true → l2.all V.one = true
  | [], l, h, _ => rfl
  | a :: l2, l, h, ho => by
    simp only [V.renL] at h
    split at h
    · rename_i a' l' ha hl
      simp only [Option.some.injEq] at h; subst h
      simp only [List.all_cons, Bool.and_eq_true] at ho ⊢
      exact ⟨by rw [ren_one ha]; exact ho.1, renL_one hl ho.2⟩
    · simp at h

def entsRen (π : Nat → Option Nat) : List (V × V × Nat) → Option (List (V × V × Nat))
  | [] => some []
  | (k, v, n) :: l => match V.ren π k, V.ren π v, entsRen π l with | some k, some v, some l => some ((k, v, n) :: l) | _, _, _ => none

def Box.ren (π : Nat → Option Nat) : Box → Option Box
  | .cells l ver mn => match V.renL π l with | some l => some (.cells l ver mn) | none => none
  | .map es c => match entsRen π es with | some es => some (.map es c) | none => none

theorem ents_ok : ∀ {es2 es : List (V × V × Nat)} {xs : List MapEntry}, entsRen π es2 = some es → MapR R es xs → MapR (R.map π) es2 xs
  | [], es, xs, h, hm => by simp only [entsRen, Option.some.injEq] at h; subst h; cases hm; exact .nil
  | (k, v, n) :: es2, es, xs, h, hm => by
    simp only [entsRen] at h
    split at h
    · rename_i k' v' l' hk hv hl
      simp only [Option.some.injEq] at h; subst h
      cases hm with
      | cons a b c d => exact .cons (ren_vr k hk a) (ren_vr v hv b) c (ents_ok hl d)
    · simp at h

end

/-- The state (e2, H2) is the state (e, L), its boxes renumbered: 'π': the new boxes' elder numbers. -/
structure RenOK (π : List Nat) (e2 : Env) (H2 : Heap) (e : Env) (L : Heap) : Prop where
  env : V.renL (π[·]?) e2 = some e
  inj : ∀ b b' b0 : Nat, π[b]? = some b0 → π[b']? = some b0 → b = b'
  heap : ∀ b b0 : Nat, π[b]? = some b0 → ∃ x2 x, H2[b]? = some x2 ∧ L[b0]? = some x ∧ Box.ren (π[·]?) x2 = some x

theorem RenOK.rel {π : List Nat} {e2 e : Env} {H2 L : Heap} (h : RenOK π e2 H2 e L) {R : Ren} {w : World} (hrel : Rel R (L[·]?) w) : Rel (R.map (π[·]?)) (H2[·]?) w := by
  refine ⟨?_, ?_, ?_, ?_, fun r j x e => by simp [Ren.map] at e, fun r j x b v L e => by simp [Ren.map] at e⟩
  · intro b v L1 e1
    obtain ⟨b0, hb, e0⟩ := Ren.map_loc e1
    obtain ⟨l, ver, mn, c, t, hg, hone, hk⟩ := hrel.loc b0 v L1 e0
    obtain ⟨x2, x, h1, h2, h3⟩ := h.heap b b0 hb
    have hg : L[b0]? = some (.cells l ver mn) := hg
    rw [hg] at h2
    simp only [Option.some.injEq] at h2; subst h2
    cases x2 with
    | map es c => simp only [Box.ren] at h3; split at h3 <;> simp at h3
    | cells l2 ver2 mn2 =>
      simp only [Box.ren] at h3
      split at h3
      · rename_i l' hl
        simp only [Option.some.injEq, Box.cells.injEq] at h3
        obtain ⟨rfl, rfl, rfl⟩ := h3
        have hlen := renL_len hl
        refine ⟨l2, ver2, mn2, c, t, h1, renL_one hl hone, ⟨hk.blk, hk.n, hk.lohi, by rw [hlen]; exact hk.hil, hk.fit, hk.vv, hk.mv, fun hv => by rw [hlen]; exact hk.top hv, fun hmv j x hj1 hj2 hx => ?_⟩⟩
        obtain ⟨x', hx', hr⟩ := renL_get hl hx
        obtain ⟨y, hy, hv⟩ := hk.cell hmv j x' hj1 hj2 hx'
        exact ⟨y, hy, ren_vr x hr hv⟩
      · simp at h3
  · intro b v L1 b' v' L2 e1 e2 er
    obtain ⟨b0, hb, e0⟩ := Ren.map_loc e1
    obtain ⟨b0', hb', e0'⟩ := Ren.map_loc e2
    obtain ⟨q1, q2⟩ := hrel.inj _ _ _ _ _ _ e0 e0' er
    subst q1
    exact ⟨h.inj _ _ _ hb hb', q2⟩
  · intro b r e1
    obtain ⟨b0, hb, e0⟩ := Ren.map_mp e1
    obtain ⟨es, clock, es', hg, hm, hr⟩ := hrel.mp b0 r e0
    obtain ⟨x2, x, h1, h2, h3⟩ := h.heap b b0 hb
    have hg : L[b0]? = some (.map es clock) := hg
    rw [hg] at h2
    simp only [Option.some.injEq] at h2; subst h2
    cases x2 with
    | cells l2 ver2 mn2 => simp only [Box.ren] at h3; split at h3 <;> simp at h3
    | map es2 c2 =>
      simp only [Box.ren] at h3
      split at h3
      · rename_i es0 hes
        simp only [Option.some.injEq, Box.map.injEq] at h3
        obtain ⟨rfl, rfl⟩ := h3
        exact ⟨es2, c2, es', h1, hm, ents_ok hes hr⟩
      · simp at h3
  · intro b b' r e1 e2
    obtain ⟨b0, hb, e0⟩ := Ren.map_mp e1
    obtain ⟨b0', hb', e0'⟩ := Ren.map_mp e2
    have := hrel.mpinj _ _ _ e0 e0'
    subst this
    exact h.inj _ _ _ hb hb'

/-- All that a relation names lies in blocks from B on. -/
def High (B : Nat) (R : Ren) : Prop := (∀ b v L, R.loc b v = some L → B ≤ L.r) ∧ ∀ b r, R.mp b = some r → B ≤ r

theorem High.map {B : Nat} {R : Ren} (h : High B R) (π : Nat → Option Nat) : High B (R.map π) :=
  ⟨fun b v L e => by obtain ⟨b0, _, e0⟩ := Ren.map_loc e; exact h.1 _ _ _ e0, fun b r e => by obtain ⟨b0, _, e0⟩ := Ren.map_mp e; exact h.2 _ _ e0⟩

theorem StepR.high {B : Nat} {R R' : Ren} {w w' : World} (h : StepR R w R' w') (hR : High B R) (hB : B ≤ w.heap.size) : Below B w w' ∧ High B R' := by
  refine ⟨⟨h.os, h.tape, h.output, h.size, fun r hr => h.keep r (by omega) (fun b v L e er => ?_) (fun b e => ?_)⟩, ⟨fun b v L e => ?_, fun b r e => ?_⟩⟩
  · have := hR.1 b v L e; omega
  · have := hR.2 b r e; omega
  · rcases h.new b v L e with ⟨v0, L0, e0, er⟩ | hge
    · rw [← er]; exact hR.1 _ _ _ e0
    · omega
  · rcases h.newm b r e with e0 | hge
    · exact hR.2 _ _ e0
    · omega

section
variable {P : Program}

/-- Whatever stands so in the model, the piece of code ends so. -/
def Good (P : Program) (c : Code) (e : Env) (H : Heap) (ex : Ex) (e' : Env) (H' : Heap) : Prop :=
  ∀ (B : Nat) (R : Ren) (a : Act) (w : World), VRL R e a.tmps.toList → Rel R (H[·]?) w → High B R → B ≤ w.heap.size → ∀ (Q : Exit → Act → World → Prop),
    (∀ a' w' R', Below B w w' → High B R' → Rel R' (H'[·]?) w' → VRL R' e' a'.tmps.toList → a'.defers = a.defers → Q (toExit ex) a' w') → c.wp P Q a w

/-- .. told of the compiled code. -/
def GoodE (P : Program) (ec : ECode) (e : Env) (H : Heap) (ex : Ex) (e' : Env) (H' : Heap) : Prop := ∀ c, cCode P c = ec → Good P c e H ex e' H'

theorem good_eval (hm : P.follows .mixedOrders = true) {X : Ctx} (hX : ∀ f, CallOK P f (X f)) (fuel : Nat) {ec : ECode} {e e' : Env} {H H' : Heap} {ex : Ex} (h : evalCode X fuel ec e H = some (ex, e', H')) : GoodE P ec e H ex e' H' := by
  intro c hc B R a w hE hrel hH hB Q k
  subst hc
  refine code_ok hX (draw_ok hm hX) fuel c e e' H H' ex h R a w hE hrel Q fun a' w' R' r1 r2 r3 r4 _ => ?_
  obtain ⟨q1, q2⟩ := r1.high hH hB
  exact k a' w' R' q1 q2 r2 r3 r4

/-- A state written anew. -/
theorem good_ren {ec : ECode} {π : List Nat} {e2 e e' : Env} {H2 H H' : Heap} {ex : Ex} (hr : RenOK π e2 H2 e H) (h : GoodE P ec e2 H2 ex e' H') : GoodE P ec e H ex e' H' := by
  intro c hc B R a w hE hrel hH hB Q k
  exact h c hc B (R.map (π[·]?)) a w (ren_vrl e2 hr.env hE) (hr.rel hrel) (hH.map _) hB Q k

theorem good_out {ec : ECode} {π : List Nat} {e e' e2 : Env} {H H' H2 : Heap} {ex : Ex} (h : GoodE P ec e H ex e' H') (hr : RenOK π e2 H2 e' H') : GoodE P ec e H ex e2 H2 := by
  intro c hc B R a w hE hrel hH hB Q k
  refine h c hc B R a w hE hrel hH hB Q fun a' w' R' r1 r2 r3 r4 r5 => ?_
  exact k a' w' _ r1 (r2.map _) (hr.rel r3) (ren_vrl e2 hr.env r4) r5

theorem good_seq {x y : ECode} {e e1 e' : Env} {H H1 H' : Heap} {ex : Ex} (h1 : GoodE P x e H .normal e1 H1) (h2 : GoodE P y e1 H1 ex e' H') : GoodE P (.seq x y) e H ex e' H' := by
  intro c hc B R a w hE hrel hH hB Q k
  cases c with
  | seq cx cy =>
    simp only [cCode, ECode.seq.injEq] at hc
    obtain ⟨rfl, rfl⟩ := hc
    refine wp_seq (h1 cx rfl B R a w hE hrel hH hB _ fun a' w' R' r1 r2 r3 r4 r5 => ?_)
    exact h2 cy rfl B R' a' w' r4 r3 r2 (Nat.le_trans hB r1.size) Q fun a'' w'' R'' s1 s2 s3 s4 s5 => k a'' w'' R'' (r1.trans s1) s2 s3 s4 (s5.trans r5)
  | region id ops draw =>
    simp only [cCode, cRegion] at hc
    split at hc
    · simp at hc
    · split at hc <;> simp at hc
  | cond c1 x y => simp only [cCode] at hc; split at hc <;> simp at hc
  | _ => simp [cCode] at hc

theorem good_seq_out {x y : ECode} {e e' : Env} {H H' : Heap} {ex : Ex} (hex : ex ≠ .normal) (h1 : GoodE P x e H ex e' H') : GoodE P (.seq x y) e H ex e' H' := by
  intro c hc B R a w hE hrel hH hB Q k
  cases c with
  | seq cx cy =>
    simp only [cCode, ECode.seq.injEq] at hc
    obtain ⟨rfl, rfl⟩ := hc
    refine wp_seq (h1 cx rfl B R a w hE hrel hH hB _ fun a' w' R' r1 r2 r3 r4 r5 => ?_)
    have := k a' w' R' r1 r2 r3 r4 r5
    cases ex with
    | normal => exact absurd rfl hex
    | exit id => exact this
    | ret => exact this
  | region id ops draw =>
    simp only [cCode, cRegion] at hc
    split at hc
    · simp at hc
    · split at hc <;> simp at hc
  | cond c1 x y => simp only [cCode] at hc; split at hc <;> simp at hc
  | _ => simp [cCode] at hc

/-- How a block with a number passes what its code ended with. -/
def Ex.inB (id : Nat) : Ex → Ex
  | .exit i => if i = id then .normal else .exit i
  | .normal => .normal
  | .ret => .ret

theorem good_block {x : ECode} {id : Nat} {e e' : Env} {H H' : Heap} {ex : Ex} (h1 : GoodE P x e H ex e' H') : GoodE P (.block id x) e H (ex.inB id) e' H' := by
  intro c hc B R a w hE hrel hH hB Q k
  cases c with
  | block i cx =>
    simp only [cCode, ECode.block.injEq] at hc
    obtain ⟨rfl, rfl⟩ := hc
    refine wp_block (h1 cx rfl B R a w hE hrel hH hB _ fun a' w' R' r1 r2 r3 r4 r5 => ?_)
    have := k a' w' R' r1 r2 r3 r4 r5
    cases ex with
    | normal => exact this
    | ret => exact this
    | exit j =>
      simp only [Ex.inB] at this
      simp only [toExit, Exit.inBlock]
      split
      · rename_i hi
        rw [if_pos hi] at this; exact this
      · rename_i hi
        rw [if_neg hi] at this; exact this
  | region id ops draw =>
    simp only [cCode, cRegion] at hc
    split at hc
    · simp at hc
    · split at hc <;> simp at hc
  | cond c1 x y => simp only [cCode] at hc; split at hc <;> simp at hc
  | _ => simp [cCode] at hc

/-- So many rounds of a loop's body, all but the last going on. -/
def GoodN (P : Program) (x : ECode) (n : Nat) (e : Env) (H : Heap) (ex : Ex) (e' : Env) (H' : Heap) : Prop :=
  ∀ c, cCode P c = x → ∀ (B : Nat) (R : Ren) (a : Act) (w : World), VRL R e a.tmps.toList → Rel R (H[·]?) w → High B R → B ≤ w.heap.size → ∀ (Q : Exit → Act → World → Prop),
    (∀ a' w' R', Below B w w' → High B R' → Rel R' (H'[·]?) w' → VRL R' e' a'.tmps.toList → a'.defers = a.defers → Q (toExit ex) a' w') → Code.rounds P c Q n a w

theorem goodN_last {x : ECode} {e e' : Env} {H H' : Heap} {ex : Ex} (hex : ex ≠ .normal) (h : GoodE P x e H ex e' H') : GoodN P x 1 e H ex e' H' := by
  intro c hc B R a w hE hrel hH hB Q k
  rw [rounds_succ]
  refine h c hc B R a w hE hrel hH hB _ fun a' w' R' r1 r2 r3 r4 r5 => ?_
  have := k a' w' R' r1 r2 r3 r4 r5
  cases ex with
  | normal => exact absurd rfl hex
  | exit id => exact this
  | ret => exact this

theorem goodN_more {x : ECode} {n : Nat} {e e1 e' : Env} {H H1 H' : Heap} {ex : Ex} (h : GoodE P x e H .normal e1 H1) (hn : GoodN P x n e1 H1 ex e' H') : GoodN P x (n + 1) e H ex e' H' := by
  intro c hc B R a w hE hrel hH hB Q k
  rw [rounds_succ]
  refine h c hc B R a w hE hrel hH hB _ fun a' w' R' r1 r2 r3 r4 r5 => ?_
  exact hn c hc B R' a' w' r4 r3 r2 (Nat.le_trans hB r1.size) Q fun a'' w'' R'' s1 s2 s3 s4 s5 => k a'' w'' R'' (r1.trans s1) s2 s3 s4 (s5.trans r5)

theorem good_loop {x : ECode} {n : Nat} {e e' : Env} {H H' : Heap} {ex : Ex} (h : GoodN P x n e H ex e' H') : GoodE P (.loop x) e H ex e' H' := by
  intro c hc B R a w hE hrel hH hB Q k
  cases c with
  | loop cx =>
    simp only [cCode, ECode.loop.injEq] at hc
    exact wp_loop_rounds n (h cx hc B R a w hE hrel hH hB Q k)
  | region id ops draw =>
    simp only [cCode, cRegion] at hc
    split at hc
    · simp at hc
    · split at hc <;> simp at hc
  | cond c1 x y => simp only [cCode] at hc; split at hc <;> simp at hc
  | _ => simp [cCode] at hc

/-- The whole call of a function whose answer is 'true', in a slot. -/
theorem good_calls {f : FuncId} {fn : Func} {ef : EFunc} (hfn : P.funcs[f]? = some fn) (hc : cFunc P fn = some ef) {t : Nat} (hres : ef.results = [.tmp t]) {args : List V} {args' : Array Value} (hargs : VRL Ren.empty args args'.toList)
    (hle : args.length ≤ ef.ntmps) {ex : Ex} (hex : ex = .normal ∨ ex = .ret) {e' : Env} {H' : Heap} (h : GoodE P ef.body (args ++ List.replicate (ef.ntmps - args.length) V.undef) [] ex e' H') (ht : e'.getD t V.undef = .bool true) (W : World) :
    Calls P f args' W fun e W' => e = .returned (.bool true) ∧ Below W.heap.size W W' := by
  unfold cFunc at hc
  split at hc
  · rename_i c rs hb hrs
    simp only [Option.some.injEq] at hc; subst hc
    dsimp only at hres h hle
    have hal := hargs.length
    simp only [Array.length_toList] at hal
    have hE : VRL Ren.empty (args ++ List.replicate (fn.ntmps - args.length) V.undef) ({ tmps := args' ++ Array.replicate (fn.ntmps - args'.size) undef, defers := [] } : Act).tmps.toList := by
      simp only [Array.toList_append, Array.toList_replicate]
      rw [hal]
      exact hargs.append (VRL.replicate _ (.tup .nil))
    refine calls_of_wp hfn hb (h c rfl W.heap.size Ren.empty _ W hE (Rel.empty _ _) ⟨fun _ _ _ h => by simp [Ren.empty] at h, fun _ _ h => by simp [Ren.empty] at h⟩ (Nat.le_refl _) _ fun a' w' R' r1 r2 r3 r4 r5 => ?_)
    have hpost : a'.defers = [] ∧ ∃ x, (results fn a'.tmps).run P w' = .ok x w' ∧ Ending.returned x = .returned (.bool true) ∧ Below W.heap.size W w' := by
      refine ⟨r5, ?_⟩
      have hm : rs.mapM (evalRes e' H') = some [.bool true] := by
        rw [hres]
        simp only [List.mapM_cons, List.mapM_nil, evalRes, ht]
        rfl
      obtain ⟨xs, h1, h2⟩ := results_ok r4 r3 hrs hm
      cases h1 with
      | cons x1 x2 =>
        cases x2
        cases x1
        refine ⟨.bool true, ?_, rfl, r1⟩
        rw [results_eq, Sem.run_bind, Array.mapM_eq_mapM_toList, Sem.run_map, h2]
        rfl
    rcases hex with rfl | rfl
    · exact hpost
    · exact hpost
  · simp at hc

end

/-! ### run by the kernel -/

/-- The environment and the heap as tries. -/
noncomputable def envT (N : Nat) (e : Env) : Tr V := fromK (depthK N) e 0 .nil

noncomputable def heapT (H : Heap) : TH := List.rec (motive := fun _ => TH → TH) (fun T => T) (fun x _ ih T => Option.rec T (fun T' => ih T') ((Upd.push x).onK T)) H ⟨.nil, 0⟩

/-- The numbers rise. -/
noncomputable def risesB (l : List Nat) : Bool := List.rec (motive := fun _ => Nat → Bool) (fun _ => true) (fun h _ ih k => Bool.rec false (ih (Nat.succ h)) (Nat.ble k h)) l 0

end Go.PE

namespace Go.PE
open Go.RowKit

theorem heapT_go : ∀ (H L : Heap) (T : TH), HIs T L → L.length + H.length ≤ 65536 →
    HIs ((List.rec (motive := fun _ => TH → TH) (fun T => T) (fun x _ ih T => Option.rec T (fun T' => ih T') ((Upd.push x).onK T)) H) T) (L ++ H)
  | [], L, T, hT, _ => by rw [List.append_nil]; exact hT
  | x :: H, L, T, hT, hl => by
    have hn := hT.len
    have hp : (Upd.push x).onK T = some ⟨Tn.set 17 T.t T.n x, Nat.add T.n 1⟩ := by
      simp only [Upd.onK]
      rw [blt_true (by simp at hl; omega)]
      rfl
    have h1 := hT.on hp
    show HIs (Option.rec (motive := fun _ => TH) T (fun T' => (List.rec (motive := fun _ => TH → TH) (fun T => T) (fun x _ ih T => Option.rec T (fun T' => ih T') ((Upd.push x).onK T)) H) T') ((Upd.push x).onK T)) _
    rw [hp]
    have := heapT_go H (L ++ [x]) _ h1 (by simp at hl ⊢; omega)
    rw [List.append_assoc] at this
    exact this

theorem heapT_ok {H : Heap} (h : H.length ≤ 65536) : HIs (heapT H) H := by
  have := heapT_go H [] ⟨.nil, 0⟩ HIs.empty (by simpa using h)
  simpa [heapT] using this

theorem envT_ok {N : Nat} {e : Env} (h : e.length = N) (h2 : N ≤ 2 ^ depthK N) : EIs N (depthK N) (envT N e) e := by
  have := EIs.start (d := depthK N) (args := e) (N := N) (by omega) h2
  rw [h, Nat.sub_self, List.replicate_zero, List.append_nil] at this
  exact this

/-! ### the check of a state against a checkpoint -/

noncomputable def slotsB (N d : Nat) (π : Nat → Option Nat) (t : Tr V) (e2 : Env) : Nat → Bool :=
  List.rec (motive := fun _ => Nat → Bool) (fun _ => true) (fun v _ ih i => Option.rec false (fun v1 => Bool.rec false (ih (Nat.succ i)) (V.beq v1 ((rd N d (.t i)).run t))) (V.ren π v)) e2

theorem slotsB_ok {N d : Nat} {π : Nat → Option Nat} {t : Tr V} {e : Env} (hE : EIs N d t e) : ∀ (e2 : Env) (i : Nat), i + e2.length = e.length → slotsB N d π t e2 i = true → V.renL π e2 = some (e.drop i)
  | [], i, hl, _ => by
    rw [List.drop_eq_nil_of_le (by simpa using (by simp at hl; omega : e.length ≤ i))]; rfl
  | v :: e2, i, hl, h => by
    have h : (Option.rec (motive := fun _ => Bool) false (fun v1 => Bool.rec (motive := fun _ => Bool) false (slotsB N d π t e2 (i + 1)) (V.beq v1 ((rd N d (.t i)).run t))) (V.ren π v)) = true := h
    simp only [List.length_cons] at hl
    cases hv : V.ren π v with
    | none => rw [hv] at h; exact absurd (show false = true from h) (by simp)
    | some v1 =>
      rw [hv] at h
      have h : (Bool.rec (motive := fun _ => Bool) false (slotsB N d π t e2 (i + 1)) (V.beq v1 ((rd N d (.t i)).run t))) = true := h
      cases hb : V.beq v1 ((rd N d (.t i)).run t) with
      | false => rw [hb] at h; exact absurd (show false = true from h) (by simp)
      | true =>
        rw [hb] at h
        have h1 := V.beq_eq _ _ hb
        rw [rd_ok hE] at h1
        have hi : i < e.length := by omega
        have h2 : Opd.ev e (.t i) = e[i] := by
          show e.getD i V.undef = e[i]
          rw [List.getD_eq_getElem?_getD, List.getElem?_eq_getElem hi]; rfl
        rw [h2] at h1
        have h3 := slotsB_ok hE e2 (i + 1) (by omega) (show slotsB N d π t e2 (i + 1) = true from h)
        rw [List.drop_eq_getElem_cons hi]
        simp only [V.renL, hv, h3, h1]

def entsBeq : List (V × V × Nat) → List (V × V × Nat) → Bool
  | [], [] => true
  | (k, v, n) :: l, (k', v', n') :: l' => V.beq k k' && V.beq v v' && Nat.beq n n' && entsBeq l l'
  | _, _ => false

theorem entsBeq_eq : ∀ {a b : List (V × V × Nat)}, entsBeq a b = true → a = b
  | [], [], _ => rfl
  | [], _ :: _, h => by simp [entsBeq] at h
  | _ :: _, [], h => by simp [entsBeq] at h
  | (k, v, n) :: l, (k', v', n') :: l', h => by
    simp only [entsBeq, Bool.and_eq_true] at h
    obtain ⟨⟨⟨h1, h2⟩, h3⟩, h4⟩ := h
    rw [V.beq_eq _ _ h1, V.beq_eq _ _ h2, Nat.eq_of_beq_eq_true h3, entsBeq_eq h4]

def Box.beqB : Box → Box → Bool
  | .cells l v m, .cells l' v' m' => V.beqL l l' && Nat.beq v v' && Nat.beq m m'
  | .map es c, .map es' c' => entsBeq es es' && Nat.beq c c'
  | _, _ => false

theorem Box.beqB_eq {a b : Box} (h : Box.beqB a b = true) : a = b := by
  cases a <;> cases b <;> simp only [Box.beqB, Bool.and_eq_true, Bool.false_eq_true] at h
  · rw [V.beqL_eq _ _ h.1.1, Nat.eq_of_beq_eq_true h.1.2, Nat.eq_of_beq_eq_true h.2]
  · rw [entsBeq_eq h.1, Nat.eq_of_beq_eq_true h.2]

/-- The boxes of the checkpoint, each against its elder; 'l': their elder numbers. -/
noncomputable def boxesB (π : Nat → Option Nat) (g : Nat → Option Box) (H2 : Heap) : List Nat → Bool :=
  List.rec (motive := fun _ => List Nat → Bool) (fun l => List.rec (motive := fun _ => Bool) true (fun _ _ _ => false) l)
    (fun x2 _ ih l => List.rec (motive := fun _ => Bool) false (fun b0 r _ => Option.rec false (fun x1 => Option.rec false (fun x => Bool.rec false (ih r) (Box.beqB x1 x)) (g b0)) (Box.ren π x2)) l) H2

theorem boxesB_ok {π : Nat → Option Nat} {g : Nat → Option Box} : ∀ (H2 : Heap) (l : List Nat), boxesB π g H2 l = true → ∀ b b0 : Nat, l[b]? = some b0 → ∃ x2 x, H2[b]? = some x2 ∧ g b0 = some x ∧ Box.ren π x2 = some x
  | [], [], _, b, b0, hb => by simp at hb
  | [], _ :: _, h, b, b0, hb => absurd (show false = true from h) (by simp)
  | _ :: _, [], h, b, b0, hb => by simp at hb
  | x2 :: H2, c :: l, h, b, b0, hb => by
    have h : (Option.rec (motive := fun _ => Bool) false (fun x1 => Option.rec (motive := fun _ => Bool) false (fun x => Bool.rec (motive := fun _ => Bool) false (boxesB π g H2 l) (Box.beqB x1 x)) (g c)) (Box.ren π x2)) = true := h
    cases hr : Box.ren π x2 with
    | none => rw [hr] at h; exact absurd (show false = true from h) (by simp)
    | some x1 =>
      rw [hr] at h
      cases hg : g c with
      | none => rw [hg] at h; exact absurd (show false = true from h) (by simp)
      | some x =>
        rw [hg] at h
        have h : (Bool.rec (motive := fun _ => Bool) false (boxesB π g H2 l) (Box.beqB x1 x)) = true := h
        cases he : Box.beqB x1 x with
        | false => rw [he] at h; exact absurd (show false = true from h) (by simp)
        | true =>
          rw [he] at h
          cases b with
          | zero =>
            simp at hb; subst hb
            exact ⟨x2, x, rfl, hg, by rw [hr, Box.beqB_eq he]⟩
          | succ b =>
            simp only [List.getElem?_cons_succ] at hb ⊢
            exact boxesB_ok H2 l h b b0 hb

theorem rises_go : ∀ (l : List Nat) (k : Nat), (List.rec (motive := fun _ => Nat → Bool) (fun _ => true) (fun h _ ih k => Bool.rec false (ih (Nat.succ h)) (Nat.ble k h)) l) k = true →
    (∀ b x : Nat, l[b]? = some x → k ≤ x) ∧ ∀ b b' x : Nat, l[b]? = some x → l[b']? = some x → b = b'
  | [], k, _ => ⟨fun b x h => by simp at h, fun b b' x h => by simp at h⟩
  | c :: l, k, h => by
    have h : (Bool.rec (motive := fun _ => Bool) false ((List.rec (motive := fun _ => Nat → Bool) (fun _ => true) (fun h _ ih k => Bool.rec false (ih (Nat.succ h)) (Nat.ble k h)) l) (Nat.succ c)) (Nat.ble k c)) = true := h
    cases hk : Nat.ble k c with
    | false => rw [hk] at h; exact absurd (show false = true from h) (by simp)
    | true =>
      rw [hk] at h
      have hk := Nat.le_of_ble_eq_true hk
      obtain ⟨h1, h2⟩ := rises_go l (c + 1) h
      refine ⟨fun b x hb => ?_, fun b b' x hb hb' => ?_⟩
      · cases b with
        | zero => simp at hb; omega
        | succ b => have := h1 b x (by simpa using hb); omega
      · cases b with
        | zero =>
          cases b' with
          | zero => rfl
          | succ b' =>
            simp at hb
            have := h1 b' x (by simpa using hb'); omega
        | succ b =>
          cases b' with
          | zero =>
            simp at hb'
            have := h1 b x (by simpa using hb); omega
          | succ b' => rw [h2 b b' x (by simpa using hb) (by simpa using hb')]

noncomputable def exB (x y : Ex) : Bool :=
  Ex.rec (Ex.rec true (fun _ => false) false y) (fun i => Ex.rec false (fun j => Nat.beq i j) false y) (Ex.rec false (fun _ => false) true y) x

theorem exB_eq {x y : Ex} (h : exB x y = true) : x = y := by
  cases x <;> cases y <;> first
    | rfl
    | exact absurd (show false = true from h) (by simp)
    | (rw [Nat.eq_of_beq_eq_true h])

/-- One phase: from (e, H) the code comes to the checkpoint (e2, H2), 'π' its boxes' elder numbers. -/
noncomputable def phaseB (X : CtxK) (fuel N : Nat) (ec : ECode) (e : Env) (H : Heap) (ex : Ex) (π : List Nat) (e2 : Env) (H2 : Heap) : Bool :=
  Bool.rec false (Bool.rec false (Bool.rec false (Bool.rec false (Bool.rec false
    (Option.rec false (fun p => Bool.rec false (Bool.rec false (boxesB (π[·]?) p.2.2.get H2 π) (slotsB N (depthK N) (π[·]?) p.2.1 e2 0)) (exB p.1 ex)) ((codeR N (depthK N) ec).run X fuel (envT N e) (heapT H)))
    (risesB π)) (Nat.beq e2.length N)) (Nat.ble H.length 65536)) (Nat.ble N (2 ^ depthK N))) (Nat.beq e.length N)

theorem bfalse {b : Bool} {x : Bool} (h : (Bool.rec (motive := fun _ => Bool) false x b) = true) : b = true ∧ x = true := by
  cases b with
  | false => exact absurd (show false = true from h) (by simp)
  | true => exact ⟨rfl, h⟩

theorem phase_ok {fs : FuncId → Option EFunc} {T : FuncId → List V → Option V} {G : HeapS} {rounds dp fuel N : Nat} {ec : ECode} {e e2 : Env} {H H2 : Heap} {ex : Ex} {π : List Nat}
    (h : phaseB (ctxH fs T G rounds dp) fuel N ec e H ex π e2 H2 = true) : ∃ e' H', evalCode (ctxE fs (shortE T G) rounds dp) fuel ec e H = some (ex, e', H') ∧ RenOK π e2 H2 e' H' := by
  unfold phaseB at h
  obtain ⟨h1, h⟩ := bfalse h
  obtain ⟨h2, h⟩ := bfalse h
  obtain ⟨h3, h⟩ := bfalse h
  obtain ⟨h4, h⟩ := bfalse h
  obtain ⟨h5, h⟩ := bfalse h
  cases hr : (codeR N (depthK N) ec).run (ctxH fs T G rounds dp) fuel (envT N e) (heapT H) with
  | none => rw [hr] at h; exact absurd (show false = true from h) (by simp)
  | some p =>
    rw [hr] at h
    obtain ⟨h6, h⟩ := bfalse h
    obtain ⟨h7, h8⟩ := bfalse h
    have e1 := Nat.eq_of_beq_eq_true h1
    have e3 := Nat.le_of_ble_eq_true h3
    have e4 := Nat.eq_of_beq_eq_true h4
    have hE := envT_ok e1 (Nat.le_of_ble_eq_true h2)
    have hH := heapT_ok e3
    obtain ⟨x, t, T1⟩ := p
    obtain ⟨e', L', q1, q2, q3⟩ := codeR_sim (ctxH_sim (fs := fs) (T := T) (G := G) (rounds := rounds) dp) fuel ec (envT N e) t e (heapT H) T1 H x hE hH hr
    have hx := exB_eq h6
    subst hx
    refine ⟨e', L', q1, ⟨?_, (rises_go π 0 h5).2, fun b b0 hb => ?_⟩⟩
    · have := slotsB_ok q2 e2 0 (by have := q2.len; omega) h7
      simpa using this
    · have := boxesB_ok H2 π h8 b b0 hb
      rw [q3.got] at this
      exact this

/-! ### slots that are not looked at -/

/-- A value that no renumbering turns. -/
def rigid (v : V) : Prop := ∀ π, V.ren π v = some v

theorem rigid_int (k : IntKind) (n : Int) : rigid (.int k n) := fun _ => rfl
theorem rigid_bool (b : Bool) : rigid (.bool b) := fun _ => rfl
theorem rigid_undef : rigid V.undef := fun _ => rfl

abbrev AgR (S : Nat → Bool) : Env → Env → Prop := Ag S fun _ v v' => rigid v ∧ rigid v'

theorem renL_ext {π : Nat → Option Nat} : ∀ {l2 l : List V}, l2.length = l.length → (∀ j : Nat, j < l2.length → V.ren π (l2.getD j V.undef) = some (l.getD j V.undef)) → V.renL π l2 = some l
  | [], [], _, _ => rfl
  | [], _ :: _, h, _ => by simp at h
  | _ :: _, [], h, _ => by simp at h
  | a :: l2, b :: l, h, k => by
    have h0 := k 0 (by simp)
    simp only [List.getD_cons_zero] at h0
    have h1 := renL_ext (π := π) (l2 := l2) (l := l) (by simpa using h) fun j hj => by
      have := k (j + 1) (by simpa using hj)
      simpa using this
    simp only [V.renL, h0, h1]

theorem renL_at {π : Nat → Option Nat} {l2 l : List V} (h : V.renL π l2 = some l) {j : Nat} (hj : j < l2.length) : V.ren π (l2.getD j V.undef) = some (l.getD j V.undef) := by
  obtain ⟨x, h1, h2⟩ := renL_get h (List.getElem?_eq_getElem hj)
  rw [List.getD_eq_getElem?_getD, List.getElem?_eq_getElem hj, List.getD_eq_getElem?_getD, h1]
  exact h2

theorem RenOK.agree {π : List Nat} {e2 e e0 : Env} {H2 L : Heap} {S : Nat → Bool} (h : RenOK π e2 H2 e L) (ha : AgR S e e0) (hS : ∀ j, S j = true → rigid (e2.getD j V.undef)) :
    ∃ e20, AgR S e2 e20 ∧ RenOK π e20 H2 e0 L := by
  have hl := renL_len h.env
  refine ⟨e2.mapIdx fun j v => if S j then e0.getD j V.undef else v, ⟨by simp, fun n hn => ?_, fun n hn => ⟨hS n hn, ?_⟩⟩, ⟨?_, h.inj, h.heap⟩⟩
  · rw [List.getD_eq_getElem?_getD, List.getD_eq_getElem?_getD, List.getElem?_mapIdx]
    cases e2[n]? with
    | none => rfl
    | some v => simp [hn]
  · rw [List.getD_eq_getElem?_getD, List.getElem?_mapIdx]
    cases hc : e2[n]? with
    | none => exact rigid_undef
    | some v => simp only [Option.map_some, hn, if_true, Option.getD_some]; exact (ha.rel n hn).2
  · refine renL_ext (by simp [hl, ha.len]) fun j hj => ?_
    have hj2 : j < e2.length := by simpa using hj
    have h1 : (e2.mapIdx fun j v => if S j then e0.getD j V.undef else v).getD j V.undef = if S j then e0.getD j V.undef else e2.getD j V.undef := by
      rw [List.getD_eq_getElem?_getD, List.getElem?_mapIdx, List.getElem?_eq_getElem hj2]
      simp only [Option.map_some, Option.getD_some]
      rw [List.getD_eq_getElem?_getD (l := e2), List.getElem?_eq_getElem hj2]; rfl
    rw [h1]
    split
    · rename_i hs
      exact (ha.rel j hs).2 _
    · rename_i hs
      rw [← ha.same j (by simpa using hs)]
      exact renL_at h.env hj2

/-- .. whatever rigid values lie in the slots S. -/
def GoodS (P : Program) (S : Nat → Bool) (ec : ECode) (e : Env) (H : Heap) (ex : Ex) (e' : Env) (H' : Heap) : Prop := ∀ e0, AgR S e e0 → ∃ e0', AgR S e' e0' ∧ GoodE P ec e0 H ex e0' H'

section
variable {P : Program} {S : Nat → Bool}

theorem goodS_phase (hm : P.follows .mixedOrders = true) {fs : FuncId → Option EFunc} {T : FuncId → List V → Option V} {G : HeapS} {rounds dp fuel N : Nat} (hX : ∀ f, CallOK P f (ctxE fs (shortE T G) rounds dp f))
    {ec : ECode} {e e2 : Env} {H H2 : Heap} {ex : Ex} {π : List Nat} (hc : codeOk S (fun _ => false) (fun _ => false) ec = true) (hS : ∀ j, S j = true → rigid (e2.getD j V.undef))
    (h : phaseB (ctxH fs T G rounds dp) fuel N ec e H ex π e2 H2 = true) : GoodS P S ec e H ex e2 H2 := by
  intro e0 ha
  obtain ⟨e', H', h1, h2⟩ := phase_ok h
  have hag := ag_code (X := ctxE fs (shortE T G) rounds dp) (S := S) (M := fun _ v v' => rigid v ∧ rigid v') (ok := fun _ => false) (mv := fun _ => false) (fun op ho => by simp at ho) (fun o ho => by simp at ho) fuel ec hc e e0 H ha
  rw [h1] at hag
  generalize hr2 : evalCode (ctxE fs (shortE T G) rounds dp) fuel ec e0 H = r2 at hag
  cases hag with
  | some h3 =>
    rename_i e0'
    obtain ⟨e20, q1, q2⟩ := h2.agree h3 hS
    exact ⟨e20, q1, good_out (good_eval hm hX fuel hr2) q2⟩

theorem goodS_seq {x y : ECode} {e e1 e' : Env} {H H1 H' : Heap} {ex : Ex} (h1 : GoodS P S x e H .normal e1 H1) (h2 : GoodS P S y e1 H1 ex e' H') : GoodS P S (.seq x y) e H ex e' H' := by
  intro e0 ha
  obtain ⟨e01, a1, g1⟩ := h1 e0 ha
  obtain ⟨e02, a2, g2⟩ := h2 e01 a1
  exact ⟨e02, a2, good_seq g1 g2⟩

end
end Go.PE

namespace Go.PE
open Go.RowKit

/-- The environment with values of one's own in the slots S. -/
def over (S : Nat → Bool) (σ : Nat → V) (e : Env) : Env := e.mapIdx fun j v => if S j then σ j else v

section
variable {S : Nat → Bool} {σ : Nat → V} {e : Env}

theorem over_len : (over S σ e).length = e.length := by simp [over]

theorem over_getD (j : Nat) : (over S σ e).getD j V.undef = if S j = true ∧ j < e.length then σ j else e.getD j V.undef := by
  unfold over
  rw [List.getD_eq_getElem?_getD, List.getElem?_mapIdx, List.getD_eq_getElem?_getD]
  by_cases hj : j < e.length
  · rw [List.getElem?_eq_getElem hj]
    simp only [Option.map_some, Option.getD_some]
    by_cases hs : S j = true
    · rw [if_pos hs, if_pos ⟨hs, hj⟩]
    · rw [if_neg hs, if_neg (fun c => hs c.1)]
  · rw [List.getElem?_eq_none (by omega), if_neg (fun c => hj c.2)]
    rfl

/-- An environment that agrees with another outside S is that one with its own values there. -/
theorem over_of {e0 : Env} (hl : e.length = e0.length) (h : ∀ n, S n = false → e.getD n V.undef = e0.getD n V.undef) : e0 = over S (fun j => e0.getD j V.undef) e := by
  apply List.ext_getElem
  · rw [over_len, hl]
  · intro j h1 h2
    have h3 : (over S (fun j => e0.getD j V.undef) e).getD j V.undef = (over S (fun j => e0.getD j V.undef) e)[j] := by
      rw [List.getD_eq_getElem?_getD, List.getElem?_eq_getElem h2]; rfl
    have h4 : e0.getD j V.undef = e0[j] := by rw [List.getD_eq_getElem?_getD, List.getElem?_eq_getElem h1]; rfl
    rw [← h3, over_getD, ← h4]
    split
    · rfl
    · rename_i c
      have hs : S j = false := by
        cases hs : S j with
        | false => rfl
        | true => exact absurd ⟨hs, by omega⟩ c
      exact (h j hs).symm

theorem renOK_over {π : List Nat} {e2 e' : Env} {H2 L : Heap} {σ2 : Nat → V} (h : RenOK π e2 H2 e' L) (hσ : ∀ j, S j = true → V.ren (π[·]?) (σ2 j) = some (σ j)) : RenOK π (over S σ2 e2) H2 (over S σ e') L := by
  have hl := renL_len h.env
  refine ⟨renL_ext (by rw [over_len, over_len, hl]) fun j hj => ?_, h.inj, h.heap⟩
  rw [over_len] at hj
  rw [over_getD, over_getD]
  by_cases hs : S j = true
  · rw [if_pos ⟨hs, hj⟩, if_pos ⟨hs, by omega⟩]
    exact hσ j hs
  · rw [if_neg (fun c => hs c.1), if_neg (fun c => hs c.1)]
    exact renL_at h.env hj

end

section
variable {P : Program} {S : Nat → Bool} {fs : FuncId → Option EFunc} {T : FuncId → List V → Option V} {G : HeapS} {rounds dp fuel N : Nat}

/-- A run of code that does not look at the slots S leaves their values. -/
theorem eval_over {X : Ctx} {ec : ECode} (hc : codeOk S (fun _ => false) (fun _ => false) ec = true) {e e' : Env} {H H' : Heap} {ex : Ex} (h : evalCode X fuel ec e H = some (ex, e', H')) (hl : e'.length = e.length) (σ : Nat → V) :
    evalCode X fuel ec (over S σ e) H = some (ex, over S σ e', H') := by
  have ha : Ag S (fun n v v' => v' = if n < e.length then σ n else V.undef) e (over S σ e) := by
    refine ⟨over_len.symm, fun n hn => ?_, fun n hn => ?_⟩
    · rw [over_getD, if_neg (fun c => by rw [hn] at c; simp at c)]
    · rw [over_getD]
      by_cases hj : n < e.length
      · rw [if_pos ⟨hn, hj⟩, if_pos hj]
      · rw [if_neg (fun c => hj c.2), if_neg hj, List.getD_eq_getElem?_getD, List.getElem?_eq_none (by omega)]; rfl
  have hag := ag_code (X := X) (S := S) (M := fun n v v' => v' = if n < e.length then σ n else V.undef) (ok := fun _ => false) (mv := fun _ => false) (fun op ho => by simp at ho) (fun o ho => by simp at ho) fuel ec hc e (over S σ e) H ha
  rw [h] at hag
  generalize hr2 : evalCode X fuel ec (over S σ e) H = r2 at hag
  cases hag with
  | some h3 =>
    rename_i e0'
    have h4 := over_of (S := S) h3.len (fun n hn => h3.same n hn)
    have h5 : over S (fun j => e0'.getD j V.undef) e' = over S σ e' := by
      apply List.ext_getElem
      · rw [over_len, over_len]
      · intro j h1 h2
        rw [over_len] at h1
        simp only [over, List.getElem_mapIdx]
        split
        · rename_i hs
          have := h3.rel j hs
          rw [if_pos (by omega)] at this
          exact this
        · rfl
    rw [h4, h5]

/-- A PHASE, at whatever values the slots S have that can be renumbered with the rest. -/
theorem good_phase (hm : P.follows .mixedOrders = true) (hX : ∀ f, CallOK P f (ctxE fs (shortE T G) rounds dp f))
    {ec : ECode} {e e2 : Env} {H H2 : Heap} {ex : Ex} {π : List Nat} (hc : codeOk S (fun _ => false) (fun _ => false) ec = true) (h : phaseB (ctxH fs T G rounds dp) fuel N ec e H ex π e2 H2 = true)
    {σ σ2 : Nat → V} (hσ : ∀ j, S j = true → V.ren (π[·]?) (σ2 j) = some (σ j)) : GoodE P ec (over S σ e) H ex (over S σ2 e2) H2 := by
  have hl0 : e.length = e2.length := by
    have h' := h
    unfold phaseB at h'
    obtain ⟨h1, h'⟩ := bfalse h'
    obtain ⟨_, h'⟩ := bfalse h'
    obtain ⟨_, h'⟩ := bfalse h'
    obtain ⟨h4, _⟩ := bfalse h'
    rw [Nat.eq_of_beq_eq_true h1, Nat.eq_of_beq_eq_true h4]
  obtain ⟨e', H', h1, h2⟩ := phase_ok h
  have hl : e'.length = e.length := by rw [← renL_len h2.env, hl0]
  exact good_out (good_eval hm hX fuel (eval_over hc h1 hl σ)) (renOK_over h2 hσ)

/-- The last phase: it leaves with 'true' in a slot. -/
noncomputable def lastB (X : CtxK) (fuel N : Nat) (ec : ECode) (e : Env) (H : Heap) (ex : Ex) (t : Nat) : Bool :=
  Bool.rec false (Bool.rec false (Bool.rec false
    (Option.rec false (fun p => Bool.rec false (V.beq (.bool true) ((rd N (depthK N) (.t t)).run p.2.1)) (exB p.1 ex)) ((codeR N (depthK N) ec).run X fuel (envT N e) (heapT H)))
    (Nat.ble H.length 65536)) (Nat.ble N (2 ^ depthK N))) (Nat.beq e.length N)

theorem last_ok {ec : ECode} {e : Env} {H : Heap} {ex : Ex} {t : Nat} (h : lastB (ctxH fs T G rounds dp) fuel N ec e H ex t = true) :
    ∃ e' H', evalCode (ctxE fs (shortE T G) rounds dp) fuel ec e H = some (ex, e', H') ∧ e'.length = e.length ∧ e'.getD t V.undef = .bool true := by
  unfold lastB at h
  obtain ⟨h1, h⟩ := bfalse h
  obtain ⟨h2, h⟩ := bfalse h
  obtain ⟨h3, h⟩ := bfalse h
  cases hr : (codeR N (depthK N) ec).run (ctxH fs T G rounds dp) fuel (envT N e) (heapT H) with
  | none => rw [hr] at h; exact absurd (show false = true from h) (by simp)
  | some p =>
    rw [hr] at h
    obtain ⟨h6, h7⟩ := bfalse h
    have hE := envT_ok (Nat.eq_of_beq_eq_true h1) (Nat.le_of_ble_eq_true h2)
    have hH := heapT_ok (Nat.le_of_ble_eq_true h3)
    obtain ⟨x, tt, T1⟩ := p
    obtain ⟨e', L', q1, q2, q3⟩ := codeR_sim (ctxH_sim (fs := fs) (T := T) (G := G) (rounds := rounds) dp) fuel ec (envT N e) tt e (heapT H) T1 H x hE hH hr
    have hx := exB_eq h6
    subst hx
    have hb := V.beq_eq _ _ h7
    rw [rd_ok q2] at hb
    exact ⟨e', L', q1, by rw [q2.len, Nat.eq_of_beq_eq_true h1], hb.symm⟩

theorem good_last (hm : P.follows .mixedOrders = true) (hX : ∀ f, CallOK P f (ctxE fs (shortE T G) rounds dp f))
    {ec : ECode} {e : Env} {H : Heap} {ex : Ex} {t : Nat} (hc : codeOk S (fun _ => false) (fun _ => false) ec = true) (ht : S t = false) (h : lastB (ctxH fs T G rounds dp) fuel N ec e H ex t = true) (σ : Nat → V) :
    ∃ e' H', GoodE P ec (over S σ e) H ex e' H' ∧ e'.getD t V.undef = .bool true := by
  obtain ⟨e', H', h1, h2, h3⟩ := last_ok h
  refine ⟨over S σ e', H', good_eval hm hX fuel (eval_over hc h1 h2 σ), ?_⟩
  rw [over_getD, if_neg (fun c => by rw [ht] at c; simp at c)]
  exact h3

end
end Go.PE

namespace Go.PE
open Go.RowKit

/-- Codes one behind the other, and what follows. -/
def app : List ECode → ECode → ECode
  | [], r => r
  | a :: l, r => .seq a (app l r)

/-- The n-th of codes that lie one behind the other. -/
def spineAt : Nat → ECode → ECode
  | 0, .seq a _ => a
  | n + 1, .seq _ b => spineAt n b
  | _, c => c

/-- .. and what lies behind the first n. -/
def restAt : Nat → ECode → ECode
  | 0, c => c
  | n + 1, .seq _ b => restAt n b
  | _ + 1, c => c

section
variable {P : Program} {X : Ctx} {fuel : Nat}

theorem good_app (hm : P.follows .mixedOrders = true) (hX : ∀ f, CallOK P f (X f)) : ∀ (l : List ECode) {r : ECode} {e e1 e' : Env} {H H1 H' : Heap} {ex : Ex},
    evalCode X fuel (app l .skip) e H = some (.normal, e1, H1) → GoodE P r e1 H1 ex e' H' → GoodE P (app l r) e H ex e' H'
  | [], r, e, e1, e', H, H1, H', ex, h, hr => by
    simp only [app, evalCode, Option.some.injEq, Prod.mk.injEq] at h
    obtain ⟨_, rfl, rfl⟩ := h
    exact hr
  | a :: l, r, e, e1, e', H, H1, H', ex, h, hr => by
    simp only [app, evalCode] at h
    split at h
    · rename_i e2 H2 h2
      exact good_seq (good_eval hm hX fuel h2) (good_app hm hX l h hr)
    · rename_i hn
      exact absurd h (hn _ _)

end

/-- Is the slot's value a number or nothing? -/
noncomputable def numB (v : V) : Bool :=
  V.rec (motive_1 := fun _ => Bool) (motive_2 := fun _ => Unit) (fun _ => true) (fun _ _ => true) (fun _ => false) (fun _ _ _ _ => false) false (fun _ _ => false)
    (fun _ _ _ _ _ _ => false) false false (fun _ _ _ => false) (fun _ => false) false (fun _ _ _ _ _ => false) false (fun _ _ _ => false) false (fun _ _ => false) (fun l _ => List.rec (motive := fun _ => Bool) true (fun _ _ _ => false) l)
    () (fun _ _ _ _ => ()) v

theorem numB_ok {v : V} (h : numB v = true) : (∃ b, v = .bool b) ∨ (∃ k n, v = .int k n) ∨ v = V.undef := by
  cases v <;> first
    | exact .inl ⟨_, rfl⟩
    | exact .inr (.inl ⟨_, _, rfl⟩)
    | (rename_i l
       cases l with
       | nil => exact .inr (.inr rfl)
       | cons a l => exact absurd (show false = true from h) (by simp))
    | exact absurd (show false = true from h) (by simp)

theorem numB_rigid {v : V} (h : numB v = true) : rigid v := by
  rcases numB_ok h with ⟨b, rfl⟩ | ⟨k, n, rfl⟩ | rfl
  · exact rigid_bool b
  · exact rigid_int k n
  · exact rigid_undef

/-- All the slots of a list hold numbers. -/
noncomputable def numsB (e : Env) (l : List Nat) : Bool := l.all fun j => numB (e.getD j V.undef)

/-- Two environments agree outside a list of slots. -/
def agreeB (l : List Nat) (a b : Env) : Bool := Nat.beq a.length b.length && (List.range a.length).all fun j => l.contains j || V.beq (a.getD j V.undef) (b.getD j V.undef)

theorem agreeB_ok {l : List Nat} {a b : Env} (h : agreeB l a b = true) : a.length = b.length ∧ ∀ n, l.contains n = false → a.getD n V.undef = b.getD n V.undef := by
  simp only [agreeB, Bool.and_eq_true] at h
  obtain ⟨h1, h2⟩ := h
  have hl := Nat.eq_of_beq_eq_true h1
  refine ⟨hl, fun n hn => ?_⟩
  by_cases c : n < a.length
  · have := List.all_eq_true.1 h2 n (List.mem_range.2 c)
    rw [hn] at this
    exact V.beq_eq _ _ (by simpa using this)
  · rw [List.getD_eq_getElem?_getD, List.getD_eq_getElem?_getD, List.getElem?_eq_none (by omega), List.getElem?_eq_none (by omega)]

/-- The slots' values pass a renumbering unturned. -/
def passB (π : List Nat) (e : Env) (l : List Nat) : Bool := l.all fun j => match V.ren (π[·]?) (e.getD j V.undef) with | some v => V.beq v (e.getD j V.undef) | none => false

theorem passB_ok {π : List Nat} {e : Env} {l : List Nat} (h : passB π e l = true) {j : Nat} (hj : j ∈ l) : V.ren (π[·]?) (e.getD j V.undef) = some (e.getD j V.undef) := by
  have := List.all_eq_true.1 h j hj
  split at this
  · rename_i v hv
    rw [hv, V.beq_eq _ _ this]
  · simp at this

/-- Slots of one's own within others of one's own. -/
theorem over_over {S1 S2 : Nat → Bool} {σ1 σ2 : Nat → V} {e : Env} : over S1 σ1 (over S2 σ2 e) = over (fun j => S1 j || S2 j) (fun j => if S1 j then σ1 j else σ2 j) e := by
  apply List.ext_getElem
  · simp [over]
  · intro j h1 h2
    simp only [over, List.getElem_mapIdx]
    by_cases c1 : S1 j = true
    · simp [c1]
    · simp [c1]

theorem over_ext {S : Nat → Bool} {σ σ' : Nat → V} {e : Env} (h : ∀ j, S j = true → σ j = σ' j) : over S σ e = over S σ' e := by
  apply List.ext_getElem
  · simp [over]
  · intro j h1 h2
    simp only [over, List.getElem_mapIdx]
    split
    · rename_i c; exact h j c
    · rfl

theorem getD_set {e : Env} {k n : Nat} {v : V} : (e.set k v).getD n V.undef = if n = k ∧ k < e.length then v else e.getD n V.undef := by
  rw [List.getD_eq_getElem?_getD, List.getElem?_set]
  by_cases c : k = n
  · subst c
    by_cases c2 : k < e.length
    · simp [c2]
    · simp [c2]
  · rw [if_neg c, if_neg (fun c2 => c c2.1.symm), List.getD_eq_getElem?_getD]

end Go.PE

namespace Go.PE
open Go.RowKit

/-- Slots that nothing is sent to keep their value. -/
def pinM (mo : Nat → Option (IntKind × Int)) (pin : List Nat) (pv : Nat → V) (n : Nat) (v v' : V) : Prop := modM mo n v v' ∧ (n ∈ pin → v' = pv n)

def pinMv (mo : Nat → Option (IntKind × Int)) (pin : List Nat) (o : EOper) : Bool := moMv mo o && match o.dst with | some j => !pin.contains j | none => true

theorem Ag.weak {S : Nat → Bool} {M M' : Nat → V → V → Prop} {e e' : Env} (h : Ag S M e e') (hM : ∀ n v v', M n v v' → M' n v v') : Ag S M' e e' := ⟨h.len, h.same, fun n hn => hM _ _ _ (h.rel n hn)⟩

theorem pinMv_ok {mo : Nat → Option (IntKind × Int)} {pin : List Nat} {pv : Nat → V} {X : Ctx} (o : EOper) (h : pinMv mo pin o = true) : RelOp (moS mo) (pinM mo pin pv) X o := by
  simp only [pinMv, Bool.and_eq_true] at h
  obtain ⟨h1, h2⟩ := h
  obtain ⟨j, q1, q2, q3, q4⟩ := moMv_ok (X := X) o h1
  refine ⟨j, q1, q2, q3, fun e e' H ha => ?_⟩
  rw [q1] at h2
  rcases q4 e e' H (ha.weak fun n v v' hm => hm.1) with h5 | ⟨v, v', h5, h6, h7⟩
  · exact .inl h5
  · refine .inr ⟨v, v', h5, h6, h7, fun hj => ?_⟩
    simp [hj] at h2

section
variable {P : Program} {fs : FuncId → Option EFunc} {T : FuncId → List V → Option V} {G : HeapS} {rounds dp fuel N : Nat}

/-- THE BEGINNING OF A RUN: from inputs that are alike those of a class, to that class's checkpoint; the slots in which the inputs lie have numbers of their own. -/
theorem good_start (hm : P.follows .mixedOrders = true) (hX : ∀ f, CallOK P f (ctxE fs (shortE T G) rounds dp f)) {mo : Nat → Option (IntKind × Int)} {pin : List Nat} {pv : Nat → V} {calls : List (FuncId × Int)} {l : List ECode}
    (hcalls : ∀ p ∈ calls, ∀ (a a' : Int) (y : V) (H : Heap), 0 ≤ a → a < 256 → 0 ≤ a' → a' < 256 → a.tmod p.2 = a'.tmod p.2 → ctxE fs (shortE T G) rounds dp p.1 [.int .u8 a, y] H = ctxE fs (shortE T G) rounds dp p.1 [.int .u8 a', y] H)
    (hc : codeOk (moS mo) (remOp mo calls) (pinMv mo pin) (app l .skip) = true) {e e2 : Env} {H2 : Heap} {π : List Nat} (h : phaseB (ctxH fs T G rounds dp) fuel N (app l .skip) e [] .normal π e2 H2 = true)
    (hn : ∀ j, moS mo j = true → numB (e2.getD j V.undef) = true) {e0 : Env} (ha : Ag (moS mo) (pinM mo pin pv) e e0) {r : ECode} {ex : Ex} {Q : Env → Prop}
    (hr : ∀ σ : Nat → V, (∀ j, moS mo j = true → rigid (σ j)) → (∀ j, moS mo j = true → j ∈ pin → σ j = pv j) → ∃ e' H', GoodE P r (over (moS mo) σ e2) H2 ex e' H' ∧ Q e') : ∃ e' H', GoodE P (app l r) e0 [] ex e' H' ∧ Q e' := by
  obtain ⟨e1, H1, h1, h2⟩ := phase_ok h
  have hok : ∀ op, remOp mo calls op = true → ∀ e e' H, Ag (moS mo) (pinM mo pin pv) e e' → evalOp (ctxE fs (shortE T G) rounds dp) e H op = evalOp (ctxE fs (shortE T G) rounds dp) e' H op :=
    fun op ho e e' H hag => remOp_ok (mo := mo) (calls := calls) hcalls op ho e e' H (hag.weak fun n v v' hm => hm.1)
  have hag := ag_code (X := ctxE fs (shortE T G) rounds dp) (S := moS mo) (M := pinM mo pin pv) hok pinMv_ok fuel (app l .skip) hc e e0 [] ha
  rw [h1] at hag
  generalize hr2 : evalCode (ctxE fs (shortE T G) rounds dp) fuel (app l .skip) e0 [] = r2 at hag
  cases hag with
  | some h3 =>
    rename_i e0'
    have h4 := over_of (S := moS mo) h3.len (fun n hn => h3.same n hn)
    have hlen := renL_len h2.env
    have at2 : ∀ j, moS mo j = true → e1.getD j V.undef = e2.getD j V.undef := by
      intro j hj
      by_cases c : j < e2.length
      · have h5 := renL_at h2.env c
        rw [numB_rigid (hn j hj)] at h5
        exact (Option.some.inj h5).symm
      · rw [List.getD_eq_getElem?_getD, List.getD_eq_getElem?_getD, List.getElem?_eq_none (by omega), List.getElem?_eq_none (by omega)]
    have hrig : ∀ j, moS mo j = true → rigid (e0'.getD j V.undef) := by
      intro j hj
      rcases (h3.rel j hj).1 with h5 | ⟨k, m, a, a', _, _, h5, _⟩
      · rw [← h5, at2 j hj]; exact numB_rigid (hn j hj)
      · rw [h5]; exact rigid_int k a'
    obtain ⟨e', H', g1, g2⟩ := hr _ hrig fun j hj hp => (h3.rel j hj).2 hp
    refine ⟨e', H', good_app hm hX l (r := r) (e1 := e0') (H1 := H1) hr2 (good_ren (π := π) (e2 := over (moS mo) (fun j => e0'.getD j V.undef) e2) (H2 := H2) ?_ g1), g2⟩
    have h6 := renOK_over (S := moS mo) (σ := fun j => e0'.getD j V.undef) (σ2 := fun j => e0'.getD j V.undef) h2 (fun j hj => hrig j hj _)
    rw [← h4] at h6
    exact h6

end

/-! ### checkpoints written by elder ones -/

def cellsAt (h : Heap) (i : Nat) : List V := match h[i]? with | some (.cells l _ _) => l | _ => []
def boxAt (h : Heap) (i : Nat) : Box := match h[i]? with | some x => x | none => .cells [] 0 0
/-- A row, patched, and behind it its last cells once more, patched. -/
noncomputable def extP (ps qs : List (Nat × V)) (d : Nat) (l : List V) : List V := patch ps l ++ patch qs (l.drop (l.length - d))

end Go.PE

