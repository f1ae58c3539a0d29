/- A whole function: the evaluator's answer is the model's. Nothing of a program stands here. -/
import Derived.Test.YtbpkjhamidpoeaaGreatDoorE18
namespace Go.PE

section
variable {P : Program} {R : Ren}

def resF (tmps : Array Value) : ResultVar → Sem Value
  | .tmp t => pure (tmps.getD t undef)
  | .cell q t => do loadVar t (← asAddr (tmps.getD q undef))

theorem results_eq (fn : Func) (tmps : Array Value) : results fn tmps = (do
    let vs ← fn.results.mapM (resF tmps)
    pure (if h : vs.size = 1 then vs[0] else .tuple vs)) := by
  unfold results
  congr 2

theorem res_ok {rv : ResultVar} {er : ERes} (hc : cRes P rv = some er) {e : Env} {a : Act} (hE : VRL R e a.tmps.toList) {H : Heap} {v : V} (h : evalRes e H er = some v) {w : World} (hrel : Rel R (H[·]?) w) :
    ∃ v', (resF a.tmps rv).run P w = .ok v' w ∧ VR R v v' := by
  cases rv with
  | tmp t =>
    simp only [cRes, Option.some.injEq] at hc; subst hc
    simp only [evalRes, Option.some.injEq] at h; subst h
    refine ⟨_, rfl, ?_⟩
    have := hE.getD t
    simpa [List.getD_eq_getElem?_getD, Array.getD_eq_getD_getElem?] using this
  | cell q t =>
    simp only [cRes, Option.map_eq_some_iff] at hc
    obtain ⟨⟨g, n⟩, hs, rfl⟩ := hc
    simp only [evalRes] at h
    have hq : VR R (e.getD q V.undef) (a.tmps.getD q undef) := by
      have := hE.getD q
      simpa [List.getD_eq_getElem?_getD, Array.getD_eq_getD_getElem?] using this
    obtain ⟨v', h1, h2⟩ := load_ok (P := P) hs hq h hrel
    refine ⟨v', ?_, h2⟩
    unfold Instr.loadAt at h1
    simp only [Sem.run_bind] at h1
    simp only [resF, Sem.run_bind]
    generalize a.tmps.getD q undef = p at *
    generalize e.getD q V.undef = pv at *
    cases hq <;> first
      | (simp only [Instr.sureAddr, Sem.run_pure, Result.andThen_ok] at h1; simp only [asAddr, Sem.run_pure, Result.andThen_ok]; exact h1)
      | (simp [Instr.sureAddr] at h1)

theorem results_ok {e : Env} {a : Act} (hE : VRL R e a.tmps.toList) {H : Heap} {w : World} (hrel : Rel R (H[·]?) w) : ∀ {l : List ResultVar} {rs : List ERes} {vs : List V},
    l.mapM (cRes P) = some rs → rs.mapM (evalRes e H) = some vs → ∃ xs : List Value, VRL R vs xs ∧ (l.mapM (resF a.tmps)).run P w = .ok xs w
  | [], rs, vs, h, h' => by
    simp only [List.mapM_nil, Option.pure_def, Option.some.injEq] at h; subst h
    simp only [List.mapM_nil, Option.pure_def, Option.some.injEq] at h'; subst h'
    exact ⟨[], .nil, rfl⟩
  | rv :: l, rs, vs, h, h' => by
    simp only [List.mapM_cons, Option.bind_eq_bind, Option.bind_eq_some_iff, Option.pure_def, Option.some.injEq] at h
    obtain ⟨er, h1, ers, h2, rfl⟩ := h
    simp only [List.mapM_cons, Option.bind_eq_bind, Option.bind_eq_some_iff, Option.pure_def, Option.some.injEq] at h'
    obtain ⟨v, h3, vs', h4, rfl⟩ := h'
    obtain ⟨x, h5, h6⟩ := res_ok h1 hE h3 hrel
    obtain ⟨xs, h7, h8⟩ := results_ok hE hrel h2 h4
    refine ⟨x :: xs, .cons h6 h7, ?_⟩
    simp only [List.mapM_cons, Sem.run_bind, Sem.run_pure]
    rw [h5, Result.andThen_ok, h8, Result.andThen_ok]

theorem func_ok {n : FuncId} {fn : Func} {ef : EFunc} (hfn : P.funcs[n]? = some fn) (hc : cFunc P fn = some ef) (hcall : callable P n = true) {X : Ctx} (hX : ∀ f, CallOK P f (X f)) (hD : DrawOK P X) (fuel : Nat) :
    CallOK P n (evalFunc X fuel ef) := by
  intro R H H' w args args' v h hargs hrel
  refine ⟨hcall, ?_⟩
  unfold cFunc at hc
  split at hc
  · rename_i c rs hb hrs
    simp only [Option.some.injEq] at hc; subst hc
    unfold evalFunc at h
    split at h
    · rename_i hle
      dsimp only at h hle
      have hal := hargs.length
      simp only [Array.length_toList] at hal
      have hE : VRL R (args ++ List.replicate (fn.ntmps - args.length) V.undef) ({ tmps := args' ++ Array.replicate (fn.ntmps - args'.size) undef, defers := [] } : Act).tmps.toList := by
        simp only [Array.toList_append, Array.toList_replicate]
        rw [hal]
        exact hargs.append (VRL.replicate _ (.tup .nil))
      have fin : ∀ (ex : Ex) (e' : Env) (H1 : Heap), ex ≠ .exit 0 → (∀ i, ex ≠ .exit i) → evalCode X fuel (cCode P c) (args ++ List.replicate (fn.ntmps - args.length) V.undef) H = some (ex, e', H1) →
          (resultsE rs e' H1).map (fun v => (v, H1)) = some (v, H') →
          Calls P n args' w fun e w' => ∃ v' R', e = .returned v' ∧ StepR R w R' w' ∧ Rel R' (H'[·]?) w' ∧ VR R' v v' ∧ StepH R H R' H' := by
        intro ex e' H1 _ hne hev hres
        rw [Option.map_eq_some_iff] at hres
        obtain ⟨v0, hv0, hp⟩ := hres
        simp only [Prod.mk.injEq] at hp
        obtain ⟨rfl, rfl⟩ := hp
        refine calls_of_wp hfn hb (code_ok hX hD fuel c _ e' H H1 ex hev R _ w hE hrel _ fun a' w' R' r1 r2 r3 r4 r5 => ?_)
        have hpost : a'.defers = [] ∧ ∃ x, (results fn a'.tmps).run P w' = .ok x w' ∧ ∃ v' R', Ending.returned x = .returned v' ∧ StepR R w R' w' ∧ Rel R' (H1[·]?) w' ∧ VR R' v0 v' ∧ StepH R H R' H1 := by
          refine ⟨r4, ?_⟩
          unfold resultsE at hv0
          have hrun : ∀ (vs : List V) (xs : List Value), VRL R' vs xs → (fn.results.toList.mapM (resF a'.tmps)).run P w' = .ok xs w' →
              (results fn a'.tmps).run P w' = .ok (if h : xs.toArray.size = 1 then xs.toArray[0] else .tuple xs.toArray) w' := by
            intro vs xs hvx hm
            rw [results_eq, Sem.run_bind, Array.mapM_eq_mapM_toList, Sem.run_map, hm]
            rfl
          split at hv0
          · rename_i v1 hm
            simp only [Option.some.injEq] at hv0; subst hv0
            obtain ⟨xs, h1, h2⟩ := results_ok r3 r2 hrs hm
            obtain ⟨v2, x2, hv2, rfl, hx2⟩ := one_of_length h1 rfl
            simp only [List.cons.injEq, and_true] at hv2; subst hv2
            exact ⟨_, hrun _ _ h1 h2, _, R', rfl, r1, r2, hx2, r5⟩
          · rename_i l hl1 hm
            simp only [Option.some.injEq] at hv0; subst hv0
            obtain ⟨xs, h1, h2⟩ := results_ok r3 r2 hrs hm
            have hne1 : ¬ xs.toArray.size = 1 := by
              intro h1s
              have hll := h1.length
              simp at h1s
              obtain ⟨v2, x2, rfl, rfl, hx2⟩ := one_of_length h1 (by omega)
              exact hl1 v2 rfl
            refine ⟨_, hrun _ _ h1 h2, .tuple xs.toArray, R', ?_, r1, r2, .tup (by simpa using h1), r5⟩
            rw [dif_neg hne1]
          · simp at hv0
        cases ex with
        | normal => exact hpost
        | ret => exact hpost
        | exit i => exact absurd rfl (hne i)
      split at h
      · rename_i e1 H1 hev
        exact fin .normal e1 H1 (by simp) (by simp) hev h
      · rename_i e1 H1 hev
        exact fin .ret e1 H1 (by simp) (by simp) hev h
      · simp at h
    · simp at h
  · simp at hc

end
end Go.PE
