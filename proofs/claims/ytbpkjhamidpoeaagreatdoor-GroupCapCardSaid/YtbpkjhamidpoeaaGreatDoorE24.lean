/- The evaluator over all functions of a program: what it answers, the calls return. What it answers from plain arguments in an empty heap, the calls return anywhere, and nothing that was there turns. Nothing of a program stands here. -/
import Derived.Test.YtbpkjhamidpoeaaGreatDoorE23
namespace Go.PE

/-- What a function comes to as it stands. -/
def funcE (P : Program) (f : FuncId) : Option EFunc := if callable P f then (P.funcs[f]?).bind (cFunc P) else none

/-- The evaluator, with so many calls one in another, so many rounds of a loop; 'S': what is known of some functions without a look into them. -/
def ctxE (fs : FuncId → Option EFunc) (S : Ctx) (rounds : Nat) : Nat → Ctx
  | 0 => fun _ _ _ => none
  | d + 1 => fun f args H =>
    match S f args H with
    | some r => some r
    | none =>
      match fs f with
      | some ef => evalFunc (ctxE fs S rounds d) rounds ef args H
      | none => none

section
variable {P : Program}

theorem callOK_none (f : FuncId) : CallOK P f fun _ _ => none := by
  intro R H H' w args args' v h
  simp at h

theorem ctxE_ok (hm : P.follows .mixedOrders = true) {fs : FuncId → Option EFunc} (hfs : ∀ f ef, fs f = some ef → funcE P f = some ef) {S : Ctx} (hS : ∀ f, CallOK P f (S f)) (rounds : Nat) : ∀ (d : Nat) (f : FuncId), CallOK P f (ctxE fs S rounds d f)
  | 0, f => callOK_none f
  | d + 1, f => by
    intro R H H' w args args' v h hargs hrel
    simp only [ctxE] at h
    split at h
    · rename_i r hr
      simp only [Option.some.injEq] at h; subst h
      exact hS f R H H' w args args' v hr hargs hrel
    · split at h
      · rename_i ef hef
        have h1 := hfs f ef hef
        unfold funcE at h1
        split at h1
        · rename_i hcall
          rw [Option.bind_eq_some_iff] at h1
          obtain ⟨fn, h2, h3⟩ := h1
          exact func_ok h2 h3 hcall (ctxE_ok hm hfs hS rounds d) (draw_ok hm (ctxE_ok hm hfs hS rounds d)) rounds R H H' w args args' v h hargs hrel
        · simp at h1
      · simp at h

/-! ### plain data -/

mutual
def V.plain : V → Bool
  | .bool _ | .int _ _ | .str _ | .nilptr | .nils | .nilmap | .nilfn | .nilif => true
  | .fn _ a c => V.plainL a && V.plainL c
  | .iface _ v => V.plain v
  | .agg l | .tup l => V.plainL l
  | _ => false
def V.plainL : List V → Bool
  | [] => true
  | a :: l => V.plain a && V.plainL l
end

mutual
theorem VR.plain {R R' : Ren} : ∀ {v : V} {x : Value}, VR R v x → V.plain v = true → VR R' v x
  | _, _, .bool b, _ => .bool b
  | _, _, .int k n, _ => .int k n
  | _, _, .str s, _ => .str s
  | _, _, .nilptr, _ => .nilptr
  | _, _, .nils, _ => .nils
  | _, _, .nilmap, _ => .nilmap
  | _, _, .nilfn, _ => .nilfn
  | _, _, .nilif, _ => .nilif
  | _, _, .fn a b, h => by
    simp only [V.plain, Bool.and_eq_true] at h
    exact .fn (VRL.plain a h.1) (VRL.plain b h.2)
  | _, _, .iface a, h => by
    simp only [V.plain] at h
    exact .iface (VR.plain a h)
  | _, _, .agg a, h => by
    simp only [V.plain] at h
    exact .agg (VRL.plain a h)
  | _, _, .tup a, h => by
    simp only [V.plain] at h
    exact .tup (VRL.plain a h)
  | _, _, .ptr .., h | _, _, .pptr .., h | _, _, .slice .., h | _, _, .slice0 .., h | _, _, .emp0, h | _, _, .psl .., h | _, _, .map .., h => by simp [V.plain] at h
theorem VRL.plain {R R' : Ren} : ∀ {l : List V} {xs : List Value}, VRL R l xs → V.plainL l = true → VRL R' l xs
  | _, _, .nil, _ => .nil
  | _, _, .cons a b, h => by
    simp only [V.plainL, Bool.and_eq_true] at h
    exact .cons (VR.plain a h.1) (VRL.plain b h.2)
end

def Ren.empty : Ren := ⟨fun _ _ => none, fun _ => none, fun _ _ => none⟩

theorem Rel.empty (g : Get) (w : World) : Rel Ren.empty g w :=
  ⟨fun _ _ _ h => by simp [Ren.empty] at h, fun _ _ _ _ _ _ h => by simp [Ren.empty] at h, fun _ _ h => by simp [Ren.empty] at h, fun _ _ _ h => by simp [Ren.empty] at h,
    fun _ _ _ h => by simp [Ren.empty] at h, fun _ _ _ _ _ _ h => by simp [Ren.empty] at h⟩

/-- All that was there stands: so the relation does. -/
theorem Rel.stood {R : Ren} {g : Get} {w w' : World} (h : Rel R g w) (hk : ∀ r, r < w.heap.size → w'.heap[r]? = w.heap[r]?) : Rel R g w' where
  loc b v L e := by
    obtain ⟨l, ver, mn, c, t, hg, ho, hk'⟩ := h.loc b v L e
    refine ⟨l, ver, mn, c, t, hg, ho, ⟨?_, hk'.n, hk'.lohi, hk'.hil, hk'.fit, hk'.vv, hk'.mv, hk'.top, hk'.cell⟩⟩
    rw [hk _ (h.lt e)]; exact hk'.blk
  inj := h.inj
  mp b r e := by
    obtain ⟨es, clock, es', hg, hm, hr⟩ := h.mp b r e
    exact ⟨es, clock, es', hg, by rw [hk _ (h.mlt e)]; exact hm, hr⟩
  mpinj := h.mpinj
  im r j x e := by
    obtain ⟨c, t, fz, y, h1, h2, h3⟩ := h.im r j x e
    exact ⟨c, t, fz, y, by rw [hk _ (h.ilt e)]; exact h1, h2, h3⟩
  imloc := h.imloc

/-- What a function answers from plain arguments in an empty heap, if the answer is plain. -/
def alone (F : List V → Heap → Option (V × Heap)) (args : List V) : Option V :=
  if V.plainL args then
    match F args [] with
    | some (v, _) => if V.plain v then some v else none
    | none => none
  else none

theorem alone_ok {f : FuncId} {F : List V → Heap → Option (V × Heap)} (h : CallOK P f F) : CallOK P f fun args H => (alone F args).map fun v => (v, H) := by
  intro R H H' w args args' v hv hargs hrel
  rw [Option.map_eq_some_iff] at hv
  obtain ⟨v1, h1, h2⟩ := hv
  simp only [Prod.mk.injEq] at h2
  obtain ⟨rfl, rfl⟩ := h2
  unfold alone at h1
  split at h1
  · rename_i hp
    split at h1
    · rename_i v2 H2 hf
      split at h1
      · rename_i hpv
        simp only [Option.some.injEq] at h1; subst h1
        obtain ⟨g1, g2⟩ := h Ren.empty [] H2 w args args' v2 hf (hargs.plain hp) (Rel.empty _ _)
        refine ⟨g1, g2.mono ?_⟩
        rintro e w' ⟨v', R', rfl, r2, r3, r4, r5⟩
        have hk : ∀ r, r < w.heap.size → w'.heap[r]? = w.heap[r]? := fun r hr => r2.keep r hr (fun _ _ _ h => by simp [Ren.empty] at h) (fun _ h => by simp [Ren.empty] at h)
        exact ⟨v', R, rfl, ⟨.refl R, r2.os, r2.tape, r2.output, r2.size, fun r hr _ _ => hk r hr, fun _ v L h => .inl ⟨v, L, h, rfl⟩, fun _ _ h => .inl h, fun _ _ _ h => .inl h⟩, hrel.stood hk, r4.plain hpv, .refl R H⟩
      · simp at h1
    · simp at h1
  · simp at h1

/-- A table of answers. -/
def tabE (T : List (List V × V)) (args : List V) : Option V := match T.find? (fun p => V.beqL p.1 args) with | some p => some p.2 | none => none

theorem tab_ok {f : FuncId} {F : List V → Heap → Option (V × Heap)} (h : CallOK P f F) {T : List (List V × V)} (hT : ∀ p ∈ T, alone F p.1 = some p.2) : CallOK P f fun args H => (tabE T args).map fun v => (v, H) := by
  intro R H H' w args args' v hv
  refine alone_ok h R H H' w args args' v ?_
  rw [Option.map_eq_some_iff] at hv ⊢
  obtain ⟨v1, h1, h2⟩ := hv
  refine ⟨v1, ?_, h2⟩
  unfold tabE at h1
  split at h1
  · rename_i p hp
    simp only [Option.some.injEq] at h1; subst h1
    have := List.find?_some hp
    have := V.beqL_eq _ _ this
    subst this
    exact hT p (List.mem_of_find?_eq_some hp)
  · simp at h1

end
end Go.PE
