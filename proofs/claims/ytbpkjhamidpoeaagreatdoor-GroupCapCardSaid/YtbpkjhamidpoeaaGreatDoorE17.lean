/- One law for every operation that the compiler lays. Nothing of a program stands here. -/
import Derived.Test.YtbpkjhamidpoeaaGreatDoorE16
namespace Go.PE

section
variable {P : Program} {R : Ren}

/-- What is known of a function that is called: whenever F answers, the call returns what stands for the answer. -/
def CallOK (P : Program) (f : FuncId) (F : List V → Heap → Option (V × Heap)) : Prop :=
  ∀ (R : Ren) (H H' : Heap) (w : World) (args : List V) (args' : Array Value) (v : V), F args H = some (v, H') → VRL R args args'.toList → Rel R (H[·]?) w →
    callable P f = true ∧ Calls P f args' w fun e w' => ∃ v' R', e = .returned v' ∧ StepR R w R' w' ∧ Rel R' (H'[·]?) w' ∧ VR R' v v' ∧ StepH R H R' H'

theorem run_callFunc {f : FuncId} (h : callable P f = true) (args : Array Value) (w : World) : (callFunc f args).run P w = .ok (.enter f args) w := by
  unfold callable at h
  split at h
  · rename_i fn hf
    simp only [Bool.and_eq_true, bne_iff_ne, ne_eq] at h
    have hb : fn.body.isNone = false := by
      cases hbd : fn.body with
      | none => simp [hbd] at h
      | some c => rfl
    have hn : (fn.name == "runtime.NumGoroutine") = false := by simpa using h.2
    simp only [callFunc, Sem.run_bind, run_program, Result.andThen_ok, hf]
    rw [if_neg (by simpa using h.2), hb]
    rfl
  · simp at h

theorem write_ok {o : Oper} {eo : EOp} (hc : cOp P o = some eo) (hp : eo.isWrite = true) {e : Env} {a : Act} (hE : VRL R e a.tmps.toList) {X : Ctx} {H H' : Heap} {v : V}
    (h : evalOp X e H eo = some (v, H')) {w : World} (hrel : Rel R (H[·]?) w) : MemRun P R w (execOp a.eval o) v (H'[·]?) (fun b => H.length ≤ b) ∧ H.length ≤ H'.length ∧ ∀ b, b < H.length → ¬ R.Dom b → H'[b]? = H[b]? := by
  obtain ⟨dst, op, ty, pos, after, guard⟩ := o
  cases op with
  | store t p x =>
    simp only [cOp] at hc
    split at hc
    · rename_i g n p1 x1 hs hp1 hx1
      simp only [Option.some.injEq] at hc; subst hc
      simp only [evalOp, Option.map_eq_some_iff, Prod.mk.injEq] at h
      obtain ⟨H1, h1, rfl, rfl⟩ := h
      obtain ⟨w', r1, r2, r3, r5⟩ := store_ok (P := P) hs (opd_ok hp1 hE) (opd_ok hx1 hE) h1 hrel
      exact ⟨⟨undef, w', R, .inr ⟨by simp [execOp, r1], rfl⟩, r2, r3, .tup .nil, fun b hb => .inl hb⟩, r5.len, r5.keep⟩
    · simp at hc
  | mapUpdate t m k x =>
    simp only [cOp] at hc
    split at hc
    · rename_i key el hu
      split at hc
      · rename_i k0 m1 k1 x1 hk0 hm1 hk1 hx1
        simp only [Option.some.injEq] at hc; subst hc
        simp only [evalOp, Option.map_eq_some_iff, Prod.mk.injEq] at h
        obtain ⟨H1, h1, rfl, rfl⟩ := h
        obtain ⟨w', r1, r2, r3, r5⟩ := mapUpd_ok (P := P) hu hk0 (opd_ok hm1 hE) (opd_ok hk1 hE) (opd_ok hx1 hE) h1 hrel
        exact ⟨⟨undef, w', R, .inr ⟨by simp [execOp, r1], rfl⟩, r2, r3, .tup .nil, fun b hb => .inl hb⟩, r5.len, r5.keep⟩
      · simp at hc
    · simp at hc
  | call c =>
    obtain ⟨callee, args, ats⟩ := c
    simp only [cOp] at hc
    cases callee with
    | invoke r m => simp at hc
    | value f =>
      cases f <;> simp only at hc
      case func f =>
        rw [Option.map_eq_some_iff] at hc
        obtain ⟨y, hy, rfl⟩ := hc
        simp [EOp.isWrite] at hp
      all_goals
        split at hc
        · simp only [Option.some.injEq] at hc; subst hc
          simp [EOp.isWrite] at hp
        · simp at hc
    | builtin b =>
      simp only at hc
      have harr : ∀ {α : Type} {l : Array α} {m : List α}, l.toList = m → l = m.toArray := by
        intro α l m h; rw [← h]
      have lift : ∀ (s : Sem Value), (∀ (cs : Array Bool), (builtin b ats ty cs (args.map a.eval)).run P w = (s.run P w).andThen fun x w' => .ok (.value x) w') →
          (∃ v' w' R', s.run P w = .ok v' w' ∧ StepR R w R' w' ∧ Rel R' (H'[·]?) w' ∧ VR R' v v' ∧ StepH R H R' H') → MemRun P R w (execOp a.eval ⟨dst, .call ⟨.builtin b, args, ats⟩, ty, pos, after, guard⟩) v (H'[·]?) (fun b => H.length ≤ b) ∧
            H.length ≤ H'.length ∧ ∀ b, b < H.length → ¬ R.Dom b → H'[b]? = H[b]? := by
        rintro s hs ⟨v', w', R', r1, r2, r3, r4, r5⟩
        refine ⟨⟨v', w', R', .inl ?_, r2, r3, r4, r5.dom⟩, r5.len, r5.keep⟩
        rw [call_builtin, hs, r1]
        rfl
      unfold cBuiltin at hc
      split at hc
      · -- len
        split at hc
        · rw [Option.map_eq_some_iff] at hc
          obtain ⟨y, hy, rfl⟩ := hc
          simp [EOp.isWrite] at hp
        · rw [Option.map_eq_some_iff] at hc
          obtain ⟨y, hy, rfl⟩ := hc
          simp [EOp.isWrite] at hp
        · simp only [Option.some.injEq] at hc; subst hc
          simp [EOp.isWrite] at hp
        · split at hc
          · simp only [Option.some.injEq] at hc; subst hc
            simp [EOp.isWrite] at hp
          · simp at hc
        · simp at hc
      · -- append
        rename_i t u s x ht hx
        have hats := harr ht
        have hargs := harr hx
        subst hats; subst hargs
        split at hc
        · rename_i el n d hel hud
          obtain ⟨hu, hn⟩ := elemSlice_ok hel
          split at hc
          · simp at hc
          · rename_i hint
            split at hc
            · rename_i bs z s1 x1 hbs hz hs1 hx1
              split at hc
              · rename_i hcond
                simp only [Bool.and_eq_true, decide_eq_true_eq, beq_iff_eq] at hcond
                simp only [Option.some.injEq] at hc; subst hc
                simp only [evalOp] at h
                refine lift (Builtin.append_ #[t, u] ty #[a.eval s, a.eval x]) (fun cs => by simp [builtin]) ?_
                exact append_ok hu hud (by simpa using hint) hn hbs hz hcond.2 hcond.1.2 (opd_ok hs1 hE) (opd_ok hx1 hE) h hrel ty
              · simp at hc
            · simp at hc
        · simp at hc
      · -- copy
        rename_i d x ht hx
        have hargs := harr hx
        subst hargs
        split at hc
        · rename_i t hat
          split at hc
          · rename_i el n d1 x1 hel hd1 hx1
            obtain ⟨hu, hn⟩ := elemSlice_ok hel
            split at hc
            · simp only [Option.some.injEq] at hc; subst hc
              simp only [evalOp] at h
              refine lift (Builtin.copy_ ats ty #[a.eval d, a.eval x]) (fun cs => by simp [builtin]) ?_
              exact copy_ok hat hu hn (opd_ok hd1 hE) (opd_ok hx1 hE) h hrel ty
            · simp at hc
          · simp at hc
        · simp at hc
      · -- clear
        rename_i t d ht hx
        have hats := harr ht
        have hargs := harr hx
        subst hats; subst hargs
        split at hc
        · rename_i el n hel
          obtain ⟨hu, hn⟩ := elemSlice_ok hel
          split at hc
          · rename_i z d1 hz hd1
            split at hc
            · simp only [Option.some.injEq] at hc; subst hc
              simp only [evalOp] at h
              refine lift (Builtin.clear_ #[t] ty #[a.eval d]) (fun cs => by simp [builtin]) ?_
              exact clear_ok hu hz (opd_ok hd1 hE) h hrel ty
            · simp at hc
          · simp at hc
        · simp at hc
      · split at hc
        · simp only [Option.some.injEq] at hc; subst hc
          simp [EOp.isWrite] at hp
        · simp at hc
      · split at hc
        · simp only [Option.some.injEq] at hc; subst hc
          simp [EOp.isWrite] at hp
        · simp at hc
      · simp at hc
  | makeFunc fn first captured =>
    cases fn <;> simp only [cOp, reduceCtorEq] at hc
    split at hc
    · simp only [Option.some.injEq] at hc; subst hc
      simp [EOp.isWrite] at hp
    · simp at hc
  | slice t x lo hi mx =>
    exfalso
    have : eo.isWrite = false := by
      cases mx <;> simp only [cOp, reduceCtorEq] at hc
      repeat' split at hc
      all_goals first
        | (simp only [reduceCtorEq] at hc; done)
        | (simp only [Option.some.injEq] at hc; subst hc; rfl)
    rw [hp] at this
    simp at this
  | makeMap t r =>
    exfalso
    have : eo.isWrite = false := by
      cases r <;> simp only [cOp, reduceCtorEq] at hc
      repeat' split at hc
      all_goals first
        | (simp only [reduceCtorEq] at hc; done)
        | (simp only [Option.some.injEq] at hc; subst hc; rfl)
    rw [hp] at this
    simp at this
  | _ =>
    exfalso
    have : eo.isWrite = false := by
      first
        | (simp only [cOp, reduceCtorEq] at hc; done)
        | (simp only [cOp, Option.map_eq_some_iff] at hc; obtain ⟨y, hy, rfl⟩ := hc; rfl)
        | (simp only [cOp, Option.bind_eq_bind, Option.bind_eq_some_iff, Option.some.injEq] at hc; obtain ⟨c1, hc1, x1, hx1, y1, hy1, rfl⟩ := hc; rfl)
        | (simp only [cOp, cBin, cEq] at hc
           repeat' split at hc
           all_goals first
             | (simp only [reduceCtorEq] at hc; done)
             | (rw [Option.map_eq_some_iff] at hc; obtain ⟨y, hy, rfl⟩ := hc; rfl)
             | (simp only [Option.some.injEq] at hc; subst hc; rfl))
        | (simp only [cOp] at hc
           repeat' split at hc
           all_goals first
             | (simp only [reduceCtorEq] at hc; done)
             | (rw [Option.map_eq_some_iff] at hc; obtain ⟨y, hy, rfl⟩ := hc; rfl)
             | (simp only [Option.some.injEq] at hc; subst hc; rfl))
    rw [hp] at this
    simp at this

def EOp.isCall : EOp → Bool
  | .call .. | .callv .. => true
  | _ => false

theorem kind_of (eo : EOp) : eo.isPure = true ∨ eo.isAlloc = true ∨ readsMem eo = true ∨ eo.isWrite = true ∨ eo.isCall = true ∨ eo = .fail := by
  cases eo <;> simp [EOp.isPure, EOp.isAlloc, readsMem, EOp.isWrite, EOp.isCall]

/-- THE LAW of calls. -/
theorem call_ok {o : Oper} {eo : EOp} (hc : cOp P o = some eo) (hp : eo.isCall = true) {e : Env} {a : Act} (hE : VRL R e a.tmps.toList) {X : Ctx} (hX : ∀ f, CallOK P f (X f)) {H H' : Heap} {v : V}
    (h : evalOp X e H eo = some (v, H')) {w : World} (hrel : Rel R (H[·]?) w) :
    ∃ f args', (execOp a.eval o).run P w = .ok (.enter f args') w ∧ Calls P f args' w fun e w' => ∃ v' R', e = .returned v' ∧ StepR R w R' w' ∧ Rel R' (H'[·]?) w' ∧ VR R' v v' ∧ StepH R H R' H' := by
  obtain ⟨dst, op, ty, pos, after, guard⟩ := o
  have hcall : ∃ c, op = .call c := by
    cases op with
    | call c => exact ⟨c, rfl⟩
    | _ =>
      exfalso
      have : eo.isCall = false := by
        first
          | (simp only [cOp, reduceCtorEq] at hc; done)
          | (simp only [cOp, Option.map_eq_some_iff] at hc; obtain ⟨y, hy, rfl⟩ := hc; rfl)
          | (simp only [cOp, Option.bind_eq_bind, Option.bind_eq_some_iff, Option.some.injEq] at hc; obtain ⟨c1, hc1, x1, hx1, y1, hy1, rfl⟩ := hc; rfl)
          | (simp only [cOp, cBin, cEq] at hc
             repeat' split at hc
             all_goals first
               | (simp only [reduceCtorEq] at hc; done)
               | (rw [Option.map_eq_some_iff] at hc; obtain ⟨y, hy, rfl⟩ := hc; rfl)
               | (simp only [Option.some.injEq] at hc; subst hc; rfl))
          | (rename_i fn _ _; cases fn <;> simp only [cOp, reduceCtorEq] at hc
             repeat' split at hc
             all_goals first
               | (simp only [reduceCtorEq] at hc; done)
               | (simp only [Option.some.injEq] at hc; subst hc; rfl))
          | (rename_i r; cases r <;> simp only [cOp, reduceCtorEq] at hc
             repeat' split at hc
             all_goals first
               | (simp only [reduceCtorEq] at hc; done)
               | (simp only [Option.some.injEq] at hc; subst hc; rfl))
          | (simp only [cOp] at hc
             repeat' split at hc
             all_goals first
               | (simp only [reduceCtorEq] at hc; done)
               | (rw [Option.map_eq_some_iff] at hc; obtain ⟨y, hy, rfl⟩ := hc; rfl)
               | (simp only [Option.some.injEq] at hc; subst hc; rfl))
      rw [hp] at this
      simp at this
  obtain ⟨c, rfl⟩ := hcall
  obtain ⟨callee, args, ats⟩ := c
  simp only [cOp] at hc
  cases callee with
  | invoke r m => simp at hc
  | builtin b =>
    exfalso
    simp only at hc
    have : eo.isCall = false := by
      unfold cBuiltin at hc
      repeat' split at hc
      all_goals first
        | (simp only [reduceCtorEq] at hc; done)
        | (rw [Option.map_eq_some_iff] at hc; obtain ⟨y, hy, rfl⟩ := hc; rfl)
        | (simp only [Option.some.injEq] at hc; subst hc; rfl)
    rw [hp] at this
    simp at this
  | value f =>
    have dyn : ∀ (x : Operand) (fo : Opd) (as : List Opd), cOpd x = some fo → cOpds args.toList = some as → evalOp X e H (.callv fo as) = some (v, H') →
        ∃ f args', (execOp a.eval ⟨dst, .call ⟨.value x, args, ats⟩, ty, pos, after, guard⟩).run P w = .ok (.enter f args') w ∧ Calls P f args' w fun e w' => ∃ v' R', e = .returned v' ∧ StepR R w R' w' ∧ Rel R' (H'[·]?) w' ∧ VR R' v v' ∧ StepH R H R' H' := by
      intro x fo as hx has h
      have rx := opd_ok hx hE
      have ras := opds_ok has hE
      simp only [evalOp] at h
      split at h
      · rename_i f fa fc hfv
        rw [hfv] at rx
        cases hcv : a.eval x <;> rw [hcv] at rx <;> cases rx
        rename_i fa' fc' h1 h2
        obtain ⟨g1, g2⟩ := hX f R H H' w _ (fa' ++ args.map a.eval ++ fc') v h (by simpa using (h1.append ras).append h2) hrel
        refine ⟨f, _, ?_, g2⟩
        simp only [execOp, resolve, Deferred.ofValue, hcv, Sem.run_bind, Sem.run_pure, Result.andThen_ok, invoke]
        exact run_callFunc g1 _ w
      · simp at h
    cases f with
    | func f =>
      simp only [Option.map_eq_some_iff] at hc
      obtain ⟨as, has, rfl⟩ := hc
      simp only [evalOp] at h
      obtain ⟨g1, g2⟩ := hX f R H H' w _ (args.map a.eval) v h (by simpa using opds_ok has hE) hrel
      refine ⟨f, _, ?_, g2⟩
      simp only [execOp, resolve, Act.eval, Deferred.ofValue, Sem.run_bind, Sem.run_pure, Result.andThen_ok, invoke, Array.empty_append, Array.append_empty]
      exact run_callFunc g1 _ w
    | tmp t =>
      simp only at hc
      split at hc
      · rename_i fo as hfo has
        simp only [Option.some.injEq] at hc; subst hc
        exact dyn _ fo as hfo has h
      · simp at hc
    | const t =>
      simp only at hc
      split at hc
      · rename_i fo as hfo has
        simp only [Option.some.injEq] at hc; subst hc
        exact dyn _ fo as hfo has h
      · simp at hc
    | global t =>
      simp only at hc
      split at hc
      · rename_i fo as hfo has
        simp only [Option.some.injEq] at hc; subst hc
        exact dyn _ fo as hfo has h
      · simp at hc

/-- THE LAW of an operation: what comes behind it is owed at what the evaluator gave. -/
theorem op_ok {o : Oper} {eo : EOp} (hc : cOp P o = some eo) {e : Env} {a : Act} (hE : VRL R e a.tmps.toList) {X : Ctx} (hX : ∀ f, CallOK P f (X f)) {H H' : Heap} {v : V}
    (h : evalOp X e H eo = some (v, H')) {w : World} (hrel : Rel R (H[·]?) w) {next : Act → World → Prop} {Q : Exit → Act → World → Prop}
    (k : ∀ v' w' R', StepR R w R' w' → Rel R' (H'[·]?) w' → VR R' v v' → StepH R H R' H' → next (a.put o.dst v') w') : o.wp P a w next Q := by
  have mem : MemRun P R w (execOp a.eval o) v (H'[·]?) (fun b => H.length ≤ b) → H.length ≤ H'.length → (∀ b, b < H.length → ¬ R.Dom b → H'[b]? = H[b]?) → o.wp P a w next Q := by
    rintro ⟨v', w', R', hr | ⟨hr, rfl⟩, r2, r3, r4, r5⟩ hl hk
    · unfold Oper.wp
      rw [hr]
      exact k v' w' R' r2 r3 r4 ⟨hl, r5, hk⟩
    · unfold Oper.wp
      rw [hr]
      exact k undef w' R' r2 r3 r4 ⟨hl, r5, hk⟩
  rcases kind_of eo with hk | hk | hk | hk | hk | hk
  · obtain ⟨rfl, v', h1, h2⟩ := pure_ok hc hk hE h
    exact mem ⟨v', w, R, .inl (h1 w), .refl R w, hrel, h2, fun b hb => .inl hb⟩ (Nat.le_refl _) (fun _ _ _ => rfl)
  · obtain ⟨h0, h1⟩ := alloc_ok hc hk hE h
    have hnone := hrel.none_of_get (b := H.length) (by simp)
    have hm := h1 (g := (H[·]?)) (g' := (H'[·]?)) (w := w) hrel hnone.1 hnone.2 (by
        rintro bx rfl
        simp) (by
        intro q hq hdom
        have hql : q < H.length := by
          rcases hdom with ⟨v, L, hv⟩ | ⟨r, hr⟩
          · obtain ⟨l, ver, mn, c, t, hg, _⟩ := hrel.loc q v L hv
            exact (List.getElem?_eq_some_iff.1 hg).1
          · obtain ⟨es0, c0, es1, hg, _⟩ := hrel.mp q r hr
            exact (List.getElem?_eq_some_iff.1 hg).1
        rcases h0 with rfl | ⟨bx, rfl⟩
        · rfl
        · simp [List.getElem?_append_left hql])
    obtain ⟨v', w', R', r1, r2, r3, r4, r5⟩ := hm
    refine mem ⟨v', w', R', r1, r2, r3, r4, fun b hb => (r5 b hb).imp id fun e => Nat.le_of_eq e.1.symm⟩ ?_ ?_
    · rcases h0 with rfl | ⟨bx, rfl⟩
      · exact Nat.le_refl _
      · simp
    · intro b hb _
      rcases h0 with rfl | ⟨bx, rfl⟩
      · rfl
      · rw [List.getElem?_append_left hb]
  · obtain ⟨rfl, h1⟩ := read_ok hc hk hE h
    obtain ⟨v', h2, h3⟩ := h1 hrel
    exact mem ⟨v', w, R, .inl h2, .refl R w, hrel, h3, fun b hb => .inl hb⟩ (Nat.le_refl _) (fun _ _ _ => rfl)
  · obtain ⟨h1, h2, h3⟩ := write_ok hc hk hE h hrel
    exact mem h1 h2 h3
  · obtain ⟨f, args', h1, h2⟩ := call_ok hc hk hE hX h hrel
    unfold Oper.wp
    rw [h1, Oper.upon_enter]
    refine h2.mono ?_
    rintro e w' ⟨v', R', rfl, r2, r3, r4, r5⟩
    exact k v' w' R' r2 r3 r4 r5
  · subst hk
    simp [evalOp] at h

end
end Go.PE
