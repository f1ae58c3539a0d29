/- Regions in the order of the text: the evaluator's run is the model's. Nothing of a program stands here. -/
import Derived.Test.YtbpkjhamidpoeaaGreatDoorE17
namespace Go.PE

section
variable {P : Program} {R : Ren}

theorem put_ok {e : Env} {a : Act} (hE : VRL R e a.tmps.toList) (d : Option Tmp) {v : V} {v' : Value} (hv : VR R v v') : VRL R (e.put d v) (a.put d v').tmps.toList := by
  cases d with
  | none => exact hE
  | some d =>
    simp only [Env.put, Act.put, Array.toList_setIfInBounds]
    exact hE.set d hv

theorem put_defers (a : Act) (d : Option Tmp) (v : Value) : (a.put d v).defers = a.defers := by
  cases d <;> rfl

theorem guard_ok {ops : Array Oper} {o : Oper} {g : Option (Nat × Bool)} (h : cGuard ops o = some g) {e : Env} {a : Act} (hE : VRL R e a.tmps.toList) (d : Option Nat) (op : EOp) :
    Region.wanted o (yielded ops a.tmps) = EOper.wanted { dst := d, op := op, guard := g } e := by
  unfold cGuard at h
  unfold Region.wanted EOper.wanted
  split at h
  · rename_i hg
    simp only [Option.some.injEq] at h; subst h
    rw [hg]
  · rename_i j want hg
    split at h
    · rename_i t ht
      simp only [Option.some.injEq] at h; subst h
      rw [hg]
      simp only [yielded, ht, Option.bind_some]
      have hr := hE.getD t
      cases hx : a.tmps[t]? with
      | none =>
        have : a.tmps.toList.getD t undef = undef := by
          rw [List.getD_eq_getElem?_getD, Array.getElem?_toList, hx]; rfl
        rw [this] at hr
        cases hv : e.getD t V.undef <;> rw [hv] at hr <;> cases hr
        rfl
      | some x =>
        have : a.tmps.toList.getD t undef = x := by
          rw [List.getD_eq_getElem?_getD, Array.getElem?_toList, hx]; rfl
        rw [this] at hr
        cases hv : e.getD t V.undef <;> rw [hv] at hr <;> cases hr <;> first | rfl | simp
    · simp at h

/-- What the compiler lays of an operation that the evaluator passes. -/
theorem oper_ok {ops : Array Oper} {o : Oper} {e : Env} {a : Act} (hE : VRL R e a.tmps.toList) {X : Ctx} (hX : ∀ f, CallOK P f (X f)) {H H' : Heap} {e' : Env}
    (h : evalOper X (cOper P ops o) e H = some (e', H')) {w : World} (hrel : Rel R (H[·]?) w) {next : Act → World → Prop} {Q : Exit → Act → World → Prop}
    (k : ∀ a' w' R', StepR R w R' w' → Rel R' (H'[·]?) w' → VRL R' e' a'.tmps.toList → a'.defers = a.defers → StepH R H R' H' → next a' w') :
    if Region.wanted o (yielded ops a.tmps) then o.wp P a w next Q ∨ (o.asks P a w ∧ LetsOut Q) else next (a.put o.dst undef) w := by
  unfold cOper at h
  split at h
  · rename_i g hg
    rw [guard_ok hg hE o.dst ((cOp P o).getD .fail)]
    unfold evalOper at h
    split at h
    · rename_i hw
      rw [if_pos hw]
      rw [Option.map_eq_some_iff] at h
      obtain ⟨⟨v, H1⟩, h1, h2⟩ := h
      simp only [Prod.mk.injEq] at h2
      obtain ⟨rfl, rfl⟩ := h2
      cases hc : cOp P o with
      | none => rw [hc] at h1; simp [evalOp] at h1
      | some eo =>
        rw [hc] at h1
        refine .inl (op_ok hc hE hX h1 hrel fun v' w' R' r1 r2 r3 r5 => ?_)
        refine k _ w' R' r1 r2 ?_ (put_defers _ _ _) r5
        exact put_ok (hE.mono r1.le) _ r3
    · rename_i hw
      rw [if_neg hw]
      simp only [Option.some.injEq, Prod.mk.injEq] at h
      obtain ⟨rfl, rfl⟩ := h
      exact k _ w R (.refl R w) hrel (put_ok hE _ (.tup .nil)) (put_defers _ _ _) (.refl R H)
  · simp [evalOper, EOper.wanted, evalOp] at h

theorem ops_ok {ops : Array Oper} {X : Ctx} (hX : ∀ f, CallOK P f (X f)) {Q : Exit → Act → World → Prop} : ∀ (l : List Oper) {R : Ren} {e e' : Env} {H H' : Heap} {a : Act} {w : World},
    evalOps X (l.map (cOper P ops)) e H = some (e', H') → VRL R e a.tmps.toList → Rel R (H[·]?) w →
    (∀ a' w' R', StepR R w R' w' → Rel R' (H'[·]?) w' → VRL R' e' a'.tmps.toList → a'.defers = a.defers → StepH R H R' H' → Q .normal a' w') → wpList P ops Q l a w
  | [], R, e, e', H, H', a, w, h, hE, hrel, k => by
    simp only [List.map_nil, evalOps, Option.some.injEq, Prod.mk.injEq] at h
    obtain ⟨rfl, rfl⟩ := h
    exact k a w R (.refl R w) hrel hE rfl (.refl R H)
  | o :: l, R, e, e', H, H', a, w, h, hE, hrel, k => by
    simp only [List.map_cons, evalOps, Option.bind_eq_some_iff] at h
    obtain ⟨⟨e1, H1⟩, h1, h2⟩ := h
    simp only [wpList]
    refine oper_ok hE hX h1 hrel fun a' w' R' r1 r2 r3 r4 r5 => ?_
    exact ops_ok hX l h2 r3 r2 fun a'' w'' R'' s1 s2 s3 s4 s5 => k a'' w'' R'' (r1.trans s1) s2 s3 (s4.trans r4) (r5.trans s5)

def toExit : Ex → Exit
  | .normal => .normal
  | .exit id => .exit id
  | .ret => .ret

/-- Whatever the run of a piece of code comes to. -/
def CodeOK (P : Program) (c : Code) (f : Env → Heap → Option (Ex × Env × Heap)) : Prop :=
  ∀ (e e' : Env) (H H' : Heap) (ex : Ex), f e H = some (ex, e', H') → ∀ (R : Ren) (a : Act) (w : World), VRL R e a.tmps.toList → Rel R (H[·]?) w → ∀ (Q : Exit → Act → World → Prop),
    (∀ a' w' R', StepR R w R' w' → Rel R' (H'[·]?) w' → VRL R' e' a'.tmps.toList → a'.defers = a.defers → StepH R H R' H' → Q (toExit ex) a' w') → c.wp P Q a w

theorem loop_ok {c : Code} {f : Env → Heap → Option (Ex × Env × Heap)} (hf : CodeOK P c f) (n : Nat) : CodeOK P (.loop c) (loopE f n) := by
  intro e e' H H' ex h R a w hE hrel Q k
  refine wp_loop_rounds n ?_
  induction n generalizing e H R a w with
  | zero => simp [loopE] at h
  | succ n ih =>
    rw [rounds_succ]
    simp only [loopE] at h
    split at h
    · rename_i e1 H1 h1
      refine hf e e1 H H1 .normal h1 R a w hE hrel _ fun a' w' R' r1 r2 r3 r4 r5 => ?_
      exact ih e1 H1 h R' a' w' r3 r2 fun a'' w'' R'' s1 s2 s3 s4 s5 => k a'' w'' R'' (r1.trans s1) s2 s3 (s4.trans r4) (r5.trans s5)
    · rename_i hn
      refine hf e e' H H' ex h R a w hE hrel _ fun a' w' R' r1 r2 r3 r4 r5 => ?_
      have := k a' w' R' r1 r2 r3 r4 r5
      cases ex with
      | normal => exact absurd h (hn e' H')
      | exit id => exact this
      | ret => exact this

/-- A region that draws its order. -/
def DrawOK (P : Program) (X : Ctx) : Prop := ∀ (id : Nat) (ops : Array Oper), CodeOK P (.region id ops true) fun e H => evalCode X 0 (cRegion P ops true) e H

theorem code_ok {X : Ctx} (hX : ∀ f, CallOK P f (X f)) (hD : DrawOK P X) (fuel : Nat) : ∀ (c : Code), CodeOK P c (evalCode X fuel (cCode P c))
  | .skip => by
    intro e e' H H' ex h R a w hE hrel Q k
    simp only [cCode, evalCode, Option.some.injEq, Prod.mk.injEq] at h
    obtain ⟨rfl, rfl, rfl⟩ := h
    exact wp_skip (k a w R (.refl R w) hrel hE rfl (.refl R H))
  | .region id ops draw => by
    intro e e' H H' ex h R a w hE hrel Q k
    cases draw with
    | true =>
      refine hD id ops e e' H H' ex ?_ R a w hE hrel Q k
      simp only [cCode] at h
      show evalCode X 0 (cRegion P ops true) e H = _
      rw [← h]
      unfold cRegion
      simp only [Bool.not_true, Bool.false_eq_true, if_false]
      split <;> rfl
    | false =>
      simp only [cCode, cRegion, Bool.not_false, if_true, evalCode, Option.map_eq_some_iff, Prod.mk.injEq] at h
      obtain ⟨⟨e1, H1⟩, h1, rfl, rfl, rfl⟩ := h
      exact wp_region_list (ops_ok hX ops.toList h1 hE hrel k)
  | .seq x y => by
    intro e e' H H' ex h R a w hE hrel Q k
    simp only [cCode, evalCode] at h
    refine wp_seq ?_
    split at h
    · rename_i e1 H1 h1
      refine code_ok hX hD fuel x e e1 H H1 .normal h1 R a w hE hrel _ fun a' w' R' r1 r2 r3 r4 r5 => ?_
      exact code_ok hX hD fuel y e1 e' H1 H' ex h R' a' w' r3 r2 Q fun a'' w'' R'' s1 s2 s3 s4 s5 => k a'' w'' R'' (r1.trans s1) s2 s3 (s4.trans r4) (r5.trans s5)
    · rename_i hn
      refine code_ok hX hD fuel x e e' H H' ex h R a w hE hrel _ fun a' w' R' r1 r2 r3 r4 r5 => ?_
      have := k a' w' R' r1 r2 r3 r4 r5
      cases ex with
      | normal => exact absurd h (hn e' H')
      | exit id => exact this
      | ret => exact this
  | .cond c x y => by
    intro e e' H H' ex h R a w hE hrel Q k
    simp only [cCode] at h
    split at h
    · rename_i c1 hc
      have rc := opd_ok hc hE
      simp only [evalCode] at h
      split at h
      · rename_i hv
        rw [hv] at rc
        cases hcv : a.eval c <;> rw [hcv] at rc <;> cases rc
        exact wp_cond_true hcv (code_ok hX hD fuel x e e' H H' ex h R a w hE hrel Q k)
      · rename_i hv
        rw [hv] at rc
        cases hcv : a.eval c <;> rw [hcv] at rc <;> cases rc
        exact wp_cond_false hcv (code_ok hX hD fuel y e e' H H' ex h R a w hE hrel Q k)
      · simp at h
    · simp [evalCode] at h
  | .block id c => by
    intro e e' H H' ex h R a w hE hrel Q k
    simp only [cCode, evalCode] at h
    refine wp_block ?_
    split at h
    · rename_i i e1 H1 h1
      simp only [Option.some.injEq, Prod.mk.injEq] at h
      obtain ⟨rfl, rfl, rfl⟩ := h
      refine code_ok hX hD fuel c e e1 H H1 (.exit i) h1 R a w hE hrel _ fun a' w' R' r1 r2 r3 r4 r5 => ?_
      have := k a' w' R' r1 r2 r3 r4 r5
      simp only [toExit, Exit.inBlock]
      split
      · rename_i hi
        rw [if_pos hi] at this; exact this
      · rename_i hi
        rw [if_neg hi] at this; exact this
    · rename_i hn
      refine code_ok hX hD fuel c e e' H H' ex h R a w hE hrel _ fun a' w' R' r1 r2 r3 r4 r5 => ?_
      have := k a' w' R' r1 r2 r3 r4 r5
      cases ex with
      | normal => exact this
      | exit id => exact absurd h (hn id e' H')
      | ret => exact this
  | .loop c => by
    simp only [cCode]
    exact loop_ok (code_ok hX hD fuel c) fuel
  | .exit id => by
    intro e e' H H' ex h R a w hE hrel Q k
    simp only [cCode, evalCode, Option.some.injEq, Prod.mk.injEq] at h
    obtain ⟨rfl, rfl, rfl⟩ := h
    exact wp_exit (k a w R (.refl R w) hrel hE rfl (.refl R H))
  | .ret => by
    intro e e' H H' ex h R a w hE hrel Q k
    simp only [cCode, evalCode, Option.some.injEq, Prod.mk.injEq] at h
    obtain ⟨rfl, rfl, rfl⟩ := h
    exact wp_ret (k a w R (.refl R w) hrel hE rfl (.refl R H))
  | .rangeFunc .. => by
    intro e e' H H' ex h
    simp [cCode, evalCode] at h
  | .scope _ => by
    intro e e' H H' ex h
    simp [cCode, evalCode] at h
  | .label _ => by
    intro e e' H H' ex h
    simp [cCode, evalCode] at h
  | .goto _ => by
    intro e e' H H' ex h
    simp [cCode, evalCode] at h
  | .refuse _ => by
    intro e e' H H' ex h
    simp [cCode, evalCode] at h

end
end Go.PE
