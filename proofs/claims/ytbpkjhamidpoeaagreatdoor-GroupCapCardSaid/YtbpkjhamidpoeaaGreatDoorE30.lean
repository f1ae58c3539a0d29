/- Shortcuts that look at the heap: of some functions it is known what they read of it and which one change they make. The staged evaluator with such shortcuts. Nothing of a program stands here. -/
import Derived.Test.YtbpkjhamidpoeaaGreatDoorE29
namespace Go.PE

/-- From arguments, a look into the heap, the heap's length: what comes back, and the change. -/
abbrev HeapS := FuncId → List V → (Nat → Option Box) → Nat → Option (V × Upd)

def heapE (G : HeapS) (f : FuncId) : List V → Heap → Option (V × Heap) := fun args H => (G f args (H[·]?) H.length).map (Upd.done H)

def shortE (T : FuncId → List V → Option V) (G : HeapS) : Ctx := fun f args H =>
  match T f args with
  | some v => some (v, H)
  | none => heapE G f args H

theorem shortE_ok {P : Program} {T : FuncId → List V → Option V} {G : HeapS} (hT : ∀ f, CallOK P f fun args H => (T f args).map fun v => (v, H)) (hG : ∀ f, CallOK P f (heapE G f)) (f : FuncId) : CallOK P f (shortE T G f) := by
  intro R H H' w args args' v h
  unfold shortE at h
  split at h
  · rename_i v1 hv
    refine hT f R H H' w args args' v ?_
    simp only
    rw [hv]; exact h
  · exact hG f R H H' w args args' v h

noncomputable def ctxH (fs : FuncId → Option EFunc) (T : FuncId → List V → Option V) (G : HeapS) (rounds : Nat) (d : Nat) : CtxK :=
  Nat.rec (motive := fun _ => CtxK) (fun _ _ _ => none)
    (fun _ ih f args H => Option.rec
      (Option.rec (Option.rec none (fun r => Option.rec none (fun r => r.run ih rounds args H) r) ((stages fs 10 1 0).get f))
        (fun p => Option.rec none (fun H' => some (p.1, H')) (p.2.onK H)) (G f args H.get H.n))
      (fun v => some (v, H)) (T f args)) d

/-- THE STAGED EVALUATOR WITH SUCH SHORTCUTS ANSWERS WHAT THE EVALUATOR ANSWERS. -/
theorem ctxH_sim {fs : FuncId → Option EFunc} {T : FuncId → List V → Option V} {G : HeapS} {rounds : Nat} : ∀ (d : Nat), Sim (ctxH fs T G rounds d) (ctxE fs (shortE T G) rounds d)
  | 0 => by
    intro f args H H' L v _ h
    have h : (none : Option (V × TH)) = some (v, H') := h
    simp at h
  | d + 1 => by
    intro f args H H' L v hH h
    have h : (Option.rec (motive := fun _ => Option (V × TH))
      (Option.rec (motive := fun _ => Option (V × TH))
        (Option.rec (motive := fun _ => Option (V × TH)) none (fun r => Option.rec (motive := fun _ => Option (V × TH)) none (fun r => r.run (ctxH fs T G rounds d) rounds args H) r) ((stages fs 10 1 0).get f))
        (fun p => Option.rec (motive := fun _ => Option (V × TH)) none (fun H' => some (p.1, H')) (p.2.onK H)) (G f args H.get H.n))
      (fun v => some (v, H)) (T f args)) = some (v, H') := h
    simp only [ctxE, shortE, heapE]
    cases hT : T f args with
    | some v1 =>
      rw [hT] at h
      have h : some (v1, H) = some (v, H') := h
      simp only [Option.some.injEq, Prod.mk.injEq] at h
      obtain ⟨rfl, rfl⟩ := h
      exact ⟨L, rfl, hH⟩
    | none =>
      rw [hT] at h
      rw [hH.got, ← hH.len] at h
      cases hG : G f args (L[·]?) L.length with
      | some p =>
        rw [hG] at h
        obtain ⟨H1, h1, h2⟩ := orec_some (f := fun H' => some (p.1, H')) h
        simp only [Option.some.injEq, Prod.mk.injEq] at h2
        obtain ⟨rfl, rfl⟩ := h2
        exact ⟨_, rfl, hH.on h1⟩
      | none =>
        rw [hG] at h
        obtain ⟨r0, hr0, h⟩ := orec_some h
        obtain ⟨r, hr, h⟩ := orec_some h
        have hr1 := stages_ok 10 1 0 f hr0
        rw [Nat.one_mul, Nat.add_zero] at hr1
        rw [hr1] at hr
        simp only [Option.map_none]
        cases hf : fs f with
        | none =>
          have hr : (Option.rec (motive := fun _ => Option RunF) none (fun ef => some (funcR ef)) (fs f)) = some r := hr
          rw [hf] at hr
          exact absurd (show (none : Option RunF) = some r from hr) (by simp)
        | some ef =>
          have hr : (Option.rec (motive := fun _ => Option RunF) none (fun ef => some (funcR ef)) (fs f)) = some r := hr
          rw [hf] at hr
          have hr : some (funcR ef) = some r := hr
          simp only [Option.some.injEq] at hr
          subst hr
          exact funcR_sim (ctxH_sim d) hH h

/-- What the staged evaluator answers from plain arguments in an empty heap, the calls return anywhere. -/
theorem alone_of_ctxH {fs : FuncId → Option EFunc} {T : FuncId → List V → Option V} {G : HeapS} {rounds d : Nat} {f : FuncId} {args : List V} {v : V}
    (h : (match ctxH fs T G rounds d f args ⟨.nil, 0⟩ with | some p => V.beq p.1 v | none => false) = true) (h1 : V.plainL args = true) (h2 : V.plain v = true) :
    alone (ctxE fs (shortE T G) rounds d f) args = some v := by
  split at h
  · rename_i p hp
    have hb := V.beq_eq _ _ h
    obtain ⟨L', h3, _⟩ := ctxH_sim (fs := fs) (T := T) (G := G) (rounds := rounds) d f args ⟨.nil, 0⟩ p.2 [] p.1 HIs.empty hp
    unfold alone
    rw [if_pos h1, h3]
    subst hb
    simp only
    rw [if_pos h2]
  · simp at h

end Go.PE
