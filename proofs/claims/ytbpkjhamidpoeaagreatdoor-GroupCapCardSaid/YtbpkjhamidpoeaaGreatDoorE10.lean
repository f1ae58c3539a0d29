/- The operations that only compute: one law for all of them, by the model's operation. Nothing of a program stands here. -/
import Derived.Test.YtbpkjhamidpoeaaGreatDoorE9
namespace Go.PE

section
variable {P : Program} {R : Ren}

theorem pure1_ok {H H' : Heap} {x : Option V} {v : V} (h : pure1 H x = some (v, H')) : x = some v ∧ H' = H := by
  simp only [pure1, Option.map_eq_some_iff, Prod.mk.injEq] at h
  obtain ⟨y, rfl, rfl, rfl⟩ := h
  exact ⟨rfl, rfl⟩

/-- The parts of a literal: what the compiler lays, evaluated, stands for what the model takes. -/
theorem cParts_ok {place : Nat → Option (Nat × Nat)} : ∀ {l : List (Nat × Operand)} {ps : List (Nat × Nat × Opd)}, cParts place l = some ps → ∀ {e : Env} {a : Act}, VRL R e a.tmps.toList →
    ∀ {cs cs' : List V} {xs : Array Value}, VRL R cs xs.toList → fillE cs (ps.map fun p => (p.1, p.2.1, p.2.2.ev e)) = some cs' →
    ∃ ys : Array Value, Instr.fill place xs (l.map fun p => (p.1, a.eval p.2)) = some ys ∧ VRL R cs' ys.toList
  | [], ps, h, e, a, _, cs, cs', xs, hx, hf => by
    simp only [cParts, Option.some.injEq] at h; subst h
    simp only [List.map_nil, fillE, Option.some.injEq] at hf; subst hf
    exact ⟨xs, rfl, hx⟩
  | (i, x) :: l, ps, h, e, a, hE, cs, cs', xs, hx, hf => by
    unfold cParts at h
    split at h
    · rename_i off n y qs hpl hy hq
      simp only [Option.some.injEq] at h; subst h
      simp only [List.map_cons, fillE] at hf
      split at hf
      · rename_i hc
        have rv := opd_ok hy hE
        have rc := rv.cells
        have hlen := rc.length
        have hxl := hx.length
        simp only [Array.length_toList] at hlen hxl
        have hset : ∀ (vs : List Value) (k : Nat) (zs : Array Value), off + k + vs.length ≤ zs.size → ((vs.zipIdx k).foldl (fun cs (c, j) => cs.setIfInBounds (off + j) c) zs).toList =
            zs.toList.take (off + k) ++ vs ++ zs.toList.drop (off + k + vs.length) := by
          intro vs
          induction vs with
          | nil => intro k zs _; simp
          | cons v vs ih =>
            intro k zs hz
            simp only [List.zipIdx_cons, List.foldl_cons]
            simp only [List.length_cons] at hz
            rw [ih (k + 1) _ (by simp; omega)]
            have := list_seg_step zs.toList (off + k) v vs (by simp; omega)
            simpa [Nat.add_assoc] using this
        obtain ⟨ys, h1, h2⟩ := cParts_ok hq hE (cs := splice cs off (y.ev e).cells) (cs' := cs')
          (xs := ((a.eval x).cells.zipIdx.foldl (fun cs (c, j) => cs.setIfInBounds (off + j) c) xs)) (by
            have := hset (a.eval x).cells.toList 0 xs (by simp; omega)
            rw [← Array.foldl_toList, Array.toList_zipIdx, this]
            exact hx.splice rc off) hf
        refine ⟨ys, ?_, h2⟩
        simp only [List.map_cons, Instr.fill, hpl]
        rw [if_neg (by simp; omega)]
        exact h1
      · simp at hf
    · simp at h

theorem optB_ok {y : Option Operand} {z : Option Opd} (h : (match y with | none => some none | some y => (cOpd y).map some : Option (Option Opd)) = some z) {e : Env} {a : Act} (hE : VRL R e a.tmps.toList) :
    match z.map (Opd.ev e), y.map a.eval with | none, none => True | some p, some q => VR R p q | _, _ => False := by
  cases y with
  | none => simp only [Option.some.injEq] at h; subst h; trivial
  | some y =>
    simp only [Option.map_eq_some_iff] at h
    obtain ⟨w, hw, rfl⟩ := h
    exact opd_ok hw hE

theorem mv_ok {x : Operand} {y : Opd} (hy : cOpd x = some y) {e : Env} {a : Act} (hE : VRL R e a.tmps.toList) {X : Ctx} {H H' : Heap} {v : V} (h : evalOp X e H (.move y) = some (v, H')) :
    H' = H ∧ VR R v (a.eval x) := by
  simp only [evalOp, Option.some.injEq, Prod.mk.injEq] at h
  obtain ⟨rfl, rfl⟩ := h
  exact ⟨rfl, opd_ok hy hE⟩

theorem build_ok {t : TypeId} {parts : Array (Nat × Operand)} {z : List V} {ps : List (Nat × Nat × Opd)} (hz : zeroT P t = some z)
    (hp : (∃ fs, P.underlying t = some (.struct fs) ∧ (fs.toList.all fun f => (sizeT P f.type).isSome) = true ∧ cParts (fun i => (fs[i]?).bind fun f => (sizeT P f.type).map fun n => (f.offset, n)) parts.toList = some ps) ∨
      (∃ len el n, P.underlying t = some (.array len el) ∧ sizeT P el = some n ∧ cParts (fun i => some (i * n, n)) parts.toList = some ps))
    {e : Env} {a : Act} (hE : VRL R e a.tmps.toList) {X : Ctx} {H H' : Heap} {v : V} (h : evalOp X e H (.build z ps) = some (v, H')) :
    H' = H ∧ ∃ v', (∀ w, (Instr.build t (parts.map fun (i, x) => (i, a.eval x))).run P w = .ok v' w) ∧ VR R v v' := by
  simp only [evalOp] at h
  obtain ⟨h1, rfl⟩ := pure1_ok h
  rw [Option.map_eq_some_iff] at h1
  obtain ⟨cs, hf, rfl⟩ := h1
  obtain ⟨i, zv, hi, hzv, hrz⟩ := zeroT_ok hz
  refine ⟨rfl, ?_⟩
  rcases hp with ⟨fs, hu, hall, hc⟩ | ⟨len, el, n, hu, hs, hc⟩
  · have hallF : ∀ (l : List Field), (∀ f ∈ l, ∃ n, sizeT P f.type = some n) → ∀ w, (l.mapM (fun f => do pure (f.offset, ← sizeOf f.type) : Field → Sem (Nat × Nat))).run P w =
        .ok (l.map fun f => (f.offset, (sizeT P f.type).getD 0)) w := by
      intro l
      induction l with
      | nil => intro _ w; rfl
      | cons f l ih =>
        intro hl w
        obtain ⟨n, hn⟩ := hl f (by simp)
        simp only [List.mapM_cons, Sem.run_bind, run_sizeT hn, Result.andThen_ok, Sem.run_pure, ih (fun g hg => hl g (by simp [hg])), List.map_cons, hn, Option.getD_some]
    have hall' : ∀ f ∈ fs.toList, ∃ n, sizeT P f.type = some n := by
      intro f hf
      have := List.all_eq_true.1 hall f hf
      exact Option.isSome_iff_exists.1 this
    have hplace : (fun (i : Nat) => (fs[i]?).bind fun (f : Field) => (sizeT P f.type).map fun n => (f.offset, n)) = fun i => ((fs.toList.map fun (f : Field) => (f.offset, (sizeT P f.type).getD 0)).toArray)[i]? := by
      funext i
      simp only [List.getElem?_toArray, List.getElem?_map, Array.getElem?_toList]
      cases hfi : fs[i]? with
      | none => rfl
      | some f =>
        have hm : f ∈ fs.toList := by
          rw [Array.mem_toList_iff]
          exact Array.mem_of_getElem? hfi
        obtain ⟨n, hn⟩ := hall' f hm
        simp [hn]
    rw [hplace] at hc
    obtain ⟨ys, h1, h2⟩ := cParts_ok hc hE hrz hf
    refine ⟨.agg ys, fun w => ?_, .agg h2⟩
    have hm : (fs.mapM (fun f => do pure (f.offset, ← sizeOf f.type) : Field → Sem (Nat × Nat))).run P w = .ok ((fs.toList.map fun f => (f.offset, (sizeT P f.type).getD 0)).toArray) w := by
      rw [Array.mapM_eq_mapM_toList, Sem.run_map, hallF _ hall']
      rfl
    simp only [Instr.build, Sem.run_bind, run_zero hi hzv, Result.andThen_ok, run_underlying hu]
    rw [hm, Result.andThen_ok]
    have : (parts.map fun (x : Nat × Operand) => (x.1, a.eval x.2)).toList = parts.toList.map fun p => (p.1, a.eval p.2) := by simp
    rw [this, h1]
    rfl
  · obtain ⟨ys, h1, h2⟩ := cParts_ok hc hE hrz hf
    refine ⟨.agg ys, fun w => ?_, .agg h2⟩
    simp only [Instr.build, Sem.run_bind, run_zero hi hzv, Result.andThen_ok, run_underlying hu, run_sizeT hs]
    have : (parts.map fun (x : Nat × Operand) => (x.1, a.eval x.2)).toList = parts.toList.map fun p => (p.1, a.eval p.2) := by simp
    rw [this, h1]
    rfl

theorem subs_ok {x : V} {x' : Value} (hx : VR R x x') {lo hi : Option V} {lo' hi' : Option Value} {v : V}
    (hl : match lo, lo' with | none, none => True | some a, some b => VR R a b | _, _ => False) (hh : match hi, hi' with | none, none => True | some a, some b => VR R a b | _, _ => False)
    (h : subsE x lo hi = some v) {t : TypeId} (ht : P.underlying t = some .string) :
    ∃ v', (∀ w, (Instr.sliceAt t x' lo' hi' none).run P w = .ok v' w) ∧ VR R v v' := by
  cases hx <;> simp only [subsE, reduceCtorEq] at h
  rename_i s
  simp only [Option.bind_eq_bind, Option.bind_eq_some_iff, Option.some.injEq] at h
  obtain ⟨h1, e1, l1, e2, rfl⟩ := h
  obtain ⟨g1, g2, hb⟩ := bounds_ok (P := P) (isSlice := false) (Nat.le_refl _) hl hh e1 e2
  refine ⟨.string (s.extract l1 h1), fun w => ?_, by rw [subStr_eq]; exact .str _⟩
  simp [Instr.sliceAt, Instr.slice, run_underlying ht, hb w]

theorem slice_ok {es : Nat} {x : V} {x' : Value} (hx : VR R x x') {lo hi : Option V} {lo' hi' : Option Value} {v : V}
    (hl : match lo, lo' with | none, none => True | some a, some b => VR R a b | _, _ => False) (hh : match hi, hi' with | none, none => True | some a, some b => VR R a b | _, _ => False)
    (h : sliceE es x lo hi = some v) {t el : TypeId} (ht : P.underlying t = some (.slice el)) (hs : sizeT P el = some es) :
    ∃ v', (∀ w, (Instr.sliceAt t x' lo' hi' none).run P w = .ok v' w) ∧ VR R v v' := by
  · have key : ∀ (a : Option Addr) (len cap h1 l1 : Nat), x' = .slice a len cap → len ≤ cap → boundE len hi len = some h1 → boundE h1 lo 0 = some l1 →
        l1 ≤ h1 ∧ h1 ≤ len ∧ ∀ w, (Instr.sliceAt t x' lo' hi' none).run P w = .ok (.slice (if cap = l1 then a else a.map (·.add (l1 * es))) (h1 - l1) (cap - l1)) w := by
      intro a len cap h1 l1 hx' hc e1 e2
      obtain ⟨g1, g2, hb⟩ := bounds_ok (P := P) (isSlice := true) hc hl hh e1 e2
      refine ⟨g1, g2, fun w => ?_⟩
      subst hx'
      simp [Instr.sliceAt, Instr.slice, run_underlying ht, hb w, run_sizeT hs]
    cases hx <;> simp only [sliceE, Option.bind_eq_bind, Option.bind_eq_some_iff, Option.some.injEq, reduceCtorEq] at h
    · rename_i b v0 off len es' c cap L a1 a2 a3 a4 a5 a6
      obtain ⟨h1, e1, l1, e2, h⟩ := h
      split at h
      · rename_i hes
        subst hes
        simp only [Option.some.injEq] at h; subst h
        obtain ⟨g1, g2, hr⟩ := key _ _ _ h1 l1 rfl a4 e1 e2
        refine ⟨_, hr, ?_⟩
        have hmul : l1 * es + (h1 - l1) * es ≤ len * es := by
          rw [← Nat.add_mul]; exact Nat.mul_le_mul_right _ (by omega)
        by_cases hz : c = l1
        · rw [if_pos hz]
          have : h1 - l1 = 0 := by omega
          rw [this]
          have hz2 : c - l1 = 0 := by omega
          rw [hz2]
          refine .slice0 a1 (by omega) (by omega) ?_
          intro k hk
          rw [Option.map_eq_some_iff] at hk
          obtain ⟨k', hk', rfl⟩ := hk
          have := a5 k' hk'; omega
        · rw [if_neg hz]
          simp only [Option.map_some, addr_add]
          have ho : off - L.lo + l1 * es = off + l1 * es - L.lo := by omega
          rw [ho]
          refine .slice a1 (by omega) (by omega) (by omega) ?_ ?_
          · intro k hk
            rw [Option.map_eq_some_iff] at hk
            obtain ⟨k', hk', rfl⟩ := hk
            have := a5 k' hk'; omega
          · intro hcn
            have hcap : cap = none := by simpa using hcn
            have := a6 hcap
            have hmm : l1 * es + (c - l1) * es = c * es := by
              rw [← Nat.add_mul]; congr 1; omega
            omega
      · simp at h
    · rename_i b v0 off es' r o cap L a1 a2 a3 a4
      obtain ⟨h1, e1, l1, e2, h⟩ := h
      split at h
      · rename_i hes
        subst hes
        simp only [Option.some.injEq] at h; subst h
        obtain ⟨g1, g2, hr⟩ := key _ _ _ h1 l1 rfl (Nat.le_refl _) e1 e2
        refine ⟨_, hr, ?_⟩
        have e0 : l1 = 0 := by omega
        subst e0
        have e0 : h1 = 0 := by omega
        subst e0
        simp only [if_true, Nat.zero_mul, Nat.add_zero, Nat.sub_self]
        refine .slice0 a1 a2 a3 ?_
        intro k hk
        rw [Option.map_eq_some_iff] at hk
        obtain ⟨k', hk', rfl⟩ := hk
        have := a4 k' hk'; omega
      · simp at h
    · obtain ⟨h1, e1, l1, e2, rfl⟩ := h
      obtain ⟨g1, g2, hr⟩ := key _ _ _ h1 l1 rfl (Nat.le_refl _) e1 e2
      refine ⟨_, hr, ?_⟩
      have e0 : l1 = 0 := by omega
      subst e0
      have e0 : h1 = 0 := by omega
      subst e0
      exact .nils
    · obtain ⟨h1, e1, l1, e2, rfl⟩ := h
      obtain ⟨g1, g2, hr⟩ := key _ _ _ h1 l1 rfl (Nat.le_refl _) e1 e2
      refine ⟨_, hr, ?_⟩
      have e0 : l1 = 0 := by omega
      subst e0
      have e0 : h1 = 0 := by omega
      subst e0
      exact .emp0
    · rename_i n r o c l a1 a2
      obtain ⟨h1, e1, l1, e2, rfl⟩ := h
      obtain ⟨g1, g2, hr⟩ := key _ _ _ h1 l1 rfl a2 e1 e2
      refine ⟨_, hr, ?_⟩
      by_cases hz : c = l1
      · rw [if_pos hz]
        have : h1 - l1 = 0 := by omega
        rw [this]
        refine .psl ?_ (by omega)
        intro j x hj
        simp at hj
      · rw [if_neg hz]
        simp only [Option.map_some, addr_add]
        refine .psl ?_ (by omega)
        intro j x hj
        have hjl : j < (h1 - l1) * es := by
          have := (List.getElem?_eq_some_iff.1 hj).1
          simp at this; omega
        rw [List.getElem?_take, if_pos hjl, List.getElem?_drop] at hj
        have := a1 _ _ hj
        rw [Nat.add_assoc]; exact this

theorem sliceArr_ok {len es : Nat} {x : V} {x' : Value} (hx : VR R x x') {lo hi : Option V} {lo' hi' : Option Value} {v : V}
    (hl : match lo, lo' with | none, none => True | some a, some b => VR R a b | _, _ => False) (hh : match hi, hi' with | none, none => True | some a, some b => VR R a b | _, _ => False)
    (h : sliceArrE len es x lo hi = some v) {t : TypeId} (ht : (∃ el, P.underlying t = some (.array len el) ∧ sizeT P el = some es) ∨ ∃ a el, P.underlying t = some (.pointer a) ∧ P.underlying a = some (.array len el) ∧ sizeT P el = some es) :
    ∃ v', (∀ w, (Instr.sliceAt t x' lo' hi' none).run P w = .ok v' w) ∧ VR R v v' := by
  cases hx <;> simp only [sliceArrE, reduceCtorEq] at h
  rename_i b v0 off ext L a1 a2 a3
  simp only [Option.bind_eq_bind, Option.bind_eq_some_iff] at h
  obtain ⟨h1, e1, l1, e2, h⟩ := h
  split at h
  · rename_i hle
    simp only [Option.some.injEq] at h; subst h
    obtain ⟨g1, g2, hb⟩ := bounds_ok (P := P) (isSlice := false) (Nat.le_refl len) hl hh e1 e2
    have hmul : l1 * es + (h1 - l1) * es ≤ len * es := by
      rw [← Nat.add_mul]; exact Nat.mul_le_mul_right _ (by omega)
    refine ⟨.slice (some (if len = l1 then ⟨L.r, off - L.lo, none⟩ else (⟨L.r, off - L.lo, none⟩ : Addr).add (l1 * es))) (h1 - l1) (len - l1), fun w => ?_, ?_⟩
    · rcases ht with ⟨el, hu, hs⟩ | ⟨q, el, hq, hu, hs⟩
      · simp [Instr.sliceAt, run_underlying hu, Instr.sureAddr, hb w, run_sizeT hs]
      · simp [Instr.sliceAt, Instr.slice, run_underlying hq, run_underlying hu, asAddr, hb w, run_sizeT hs]
    · by_cases hz : len = l1
      · rw [if_pos hz]
        have : h1 - l1 = 0 := by omega
        rw [this]
        have hz2 : len - l1 = 0 := by omega
        rw [hz2]
        exact .slice0 a1 (by omega) (by omega) (by simp)
      · rw [if_neg hz, addr_add]
        have ho : off - L.lo + l1 * es = off + l1 * es - L.lo := by omega
        rw [ho]
        exact .slice a1 (by omega) (by omega) (by omega) (by simp) (by simp)
  · simp at h

end
end Go.PE
