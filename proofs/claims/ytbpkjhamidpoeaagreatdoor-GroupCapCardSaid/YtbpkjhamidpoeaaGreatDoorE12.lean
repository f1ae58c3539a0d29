/- The operations that make memory, and those that read it. Nothing of a program stands here. -/
import Derived.Test.YtbpkjhamidpoeaaGreatDoorE11
import Derived.IntWalk
namespace Go.PE

def EOp.isAlloc : EOp → Bool
  | .new _ | .box .. | .buildSl .. | .mkMap | .mkSl .. => true
  | _ => false

section
variable {P : Program} {R : Ren}

/-- The operation gives a value that stands for v; memory stands as g' says; what is named newly is as D says. -/
def MemRun (P : Program) (R : Ren) (w : World) (s : Sem Next) (v : V) (g' : Get) (D : Nat → Prop) : Prop :=
  ∃ v' w' R', (s.run P w = .ok (.value v') w' ∨ (s.run P w = .ok .skip w' ∧ v' = undef)) ∧ StepR R w R' w' ∧ Rel R' g' w' ∧ VR R' v v' ∧ ∀ b, R'.Dom b → R.Dom b ∨ D b

theorem getElem?_repeatL (z : List V) : ∀ (n j : Nat), j < n * z.length → (repeatL z n)[j]? = z[j % z.length]?
  | 0, j, h => by simp at h
  | n + 1, j, h => by
    have hz : 0 < z.length := by
      rcases Nat.eq_zero_or_pos z.length with h0 | h0
      · rw [h0] at h; simp at h
      · exact h0
    simp only [repeatL]
    by_cases hj : j < z.length
    · rw [List.getElem?_append_left hj, Nat.mod_eq_of_lt hj]
    · rw [List.getElem?_append_right (by omega), getElem?_repeatL z n (j - z.length) (by rw [Nat.add_mul] at h; omega)]
      congr 1
      exact (Nat.mod_eq_sub_mod (by omega)).symm

theorem length_repeatL (z : List V) : ∀ (n : Nat), (repeatL z n).length = n * z.length
  | 0 => by simp [repeatL]
  | n + 1 => by simp [repeatL, length_repeatL z n, Nat.add_mul, Nat.add_comm]

theorem all_repeatL {z : List V} (h : z.all V.one = true) : ∀ (n : Nat), (repeatL z n).all V.one = true
  | 0 => rfl
  | n + 1 => by rw [repeatL, List.all_append, h, all_repeatL h n]; rfl

theorem repeat_ok {z : List V} {zs : Array Value} (h : VRL R z zs.toList) (n : Nat) :
    VRL R (repeatL z n) ((Array.range (n * zs.size)).map (zs[· % zs.size]!)).toList := by
  have hl := h.length
  simp only [Array.length_toList] at hl
  refine VRL.of_get (by rw [length_repeatL]; simp [hl]) fun j v hv => ?_
  have hj : j < n * z.length := by
    have := (List.getElem?_eq_some_iff.1 hv).1
    rw [length_repeatL] at this; exact this
  rw [getElem?_repeatL z n j hj] at hv
  obtain ⟨y, hy, hr⟩ := h.get hv
  refine ⟨y, ?_, hr⟩
  rw [hl] at hy hj
  rw [Array.getElem?_toList, Array.getElem?_map, Array.getElem?_range, if_pos hj, Option.map_some]
  rw [Array.getElem?_toList] at hy
  rw [getElem!_def, hy]

theorem wrap_small {n : Int} (h0 : 0 ≤ n) (h : n < 2 ^ 40) : IntKind.i64.wrap n = n := IntWalk.i64_in n (by omega)

theorem elemSlice_ok {t el : TypeId} {n : Nat} (hel : elemSlice P t = some (el, n)) : P.underlying t = some (.slice el) ∧ sizeT P el = some n := by
  unfold elemSlice at hel
  split at hel
  · rename_i e1 hu
    rw [Option.map_eq_some_iff] at hel
    obtain ⟨m, hm, he⟩ := hel
    simp only [Prod.mk.injEq] at he
    obtain ⟨rfl, rfl⟩ := he
    exact ⟨hu, hm⟩
  · simp at hel

/-- A map of the heap that says the same of all that is named. -/
theorem Rel.congr {g g' : Get} {w : World} (h : Rel R g w) (hs : ∀ k, ((∃ v L, R.loc k v = some L) ∨ ∃ r, R.mp k = some r) → g' k = g k) : Rel R g' w := by
  refine ⟨fun b v L e => ?_, h.inj, fun b r e => ?_, h.mpinj, h.im, h.imloc⟩
  · obtain ⟨l, ver, mn, c, t, hg1, ho1, hk1⟩ := h.loc b v L e
    exact ⟨l, ver, mn, c, t, by rw [hs b (.inl ⟨v, L, e⟩)]; exact hg1, ho1, hk1⟩
  · obtain ⟨es, clock, es', hg1, hk1, hm1⟩ := h.mp b r e
    exact ⟨es, clock, es', by rw [hs b (.inr ⟨r, e⟩)]; exact hg1, hk1, hm1⟩

theorem same_named {g g' : Get} {b : Nat} (hb : ∀ v, R.loc b v = none) (hm : R.mp b = none)
    (hk : ∀ k, k ≠ b → ((∃ v L, R.loc k v = some L) ∨ ∃ r, R.mp k = some r) → g' k = g k) : ∀ k, ((∃ v L, R.loc k v = some L) ∨ ∃ r, R.mp k = some r) → g' k = g k := by
  intro k hdom
  by_cases hkb : k = b
  · subst hkb
    rcases hdom with ⟨v, L, hv⟩ | ⟨r, hr⟩
    · rw [hb v] at hv; simp at hv
    · rw [hm] at hr; simp at hr
  · exact hk k hkb hdom

theorem take_all {α : Type} (l : List α) (n : Nat) (h : n = l.length) : l.take n = l := by subst h; simp

theorem Rel.allocRow {g g' : Get} {w : World} (h : Rel R g w) {b : Nat} (hb : ∀ v, R.loc b v = none) (hm : R.mp b = none) {cs : List V} {c : Array Value} {t : TypeId}
    (hg : g' b = some (.cells cs 0 0)) (hk : ∀ k, k ≠ b → ((∃ v L, R.loc k v = some L) ∨ ∃ r, R.mp k = some r) → g' k = g k) (hone : cs.all V.one = true) (hv : VRL R cs c.toList) :
    Rel (R.addLoc b 0 ⟨w.heap.size, 0, cs.length, c.size⟩) g' (w.alloc (.cells c t)) ∧ StepR R w (R.addLoc b 0 ⟨w.heap.size, 0, cs.length, c.size⟩) (w.alloc (.cells c t)) := by
  have hl := hv.length
  simp only [Array.length_toList] at hl
  exact h.alloc hb hm hg hk hone (by omega) (by rw [take_all _ _ (by simpa using hl)]; exact hv)

def Op.mayAlloc : Op → Bool
  | .alloc _ | .box .. | .buildSlice .. | .makeMap .. | .makeSlice .. => true
  | _ => false

theorem notAlloc_builtin {b : Builtin} {ats : Array TypeId} {args : List Operand} {eo : EOp} (hc : cBuiltin P b ats args = some eo) : eo.isAlloc = false := by
  unfold cBuiltin at hc
  repeat' split at hc
  all_goals first
    | (simp only [reduceCtorEq] at hc; done)
    | (rw [Option.map_eq_some_iff] at hc; obtain ⟨y, hy, rfl⟩ := hc; rfl)
    | (simp only [Option.some.injEq] at hc; subst hc; rfl)

theorem notAlloc {o : Oper} {eo : EOp} (hc : cOp P o = some eo) (h : Op.mayAlloc o.op = false) : eo.isAlloc = false := by
  obtain ⟨dst, op, ty, pos, after, guard⟩ := o
  cases op <;> simp only [Op.mayAlloc, Bool.true_eq_false] at h
  case move | assign | nilCheck | unOp | extract =>
    simp only [cOp, Option.map_eq_some_iff] at hc
    obtain ⟨y, hy, rfl⟩ := hc
    rfl
  case pick =>
    simp only [cOp, Option.bind_eq_bind, Option.bind_eq_some_iff, Option.some.injEq] at hc
    obtain ⟨c1, hc1, x1, hx1, y1, hy1, rfl⟩ := hc
    rfl
  case binOp =>
    simp only [cOp, cBin, cEq] at hc
    repeat' split at hc
    all_goals first
      | (simp only [reduceCtorEq] at hc; done)
      | (rw [Option.map_eq_some_iff] at hc; obtain ⟨y, hy, rfl⟩ := hc; rfl)
      | (simp only [Option.some.injEq] at hc; subst hc; rfl)
  case call c =>
    obtain ⟨callee, args, ats⟩ := c
    simp only [cOp] at hc
    cases callee with
    | invoke r m => simp at hc
    | builtin b => exact notAlloc_builtin hc
    | value f =>
      cases f <;> simp only at hc
      case func f =>
        rw [Option.map_eq_some_iff] at hc
        obtain ⟨y, hy, rfl⟩ := hc
        rfl
      all_goals
        split at hc
        · simp only [Option.some.injEq] at hc; subst hc; rfl
        · simp at hc
  case makeFunc fn first captured =>
    cases fn <;> simp only [cOp, reduceCtorEq] at hc
    split at hc
    · simp only [Option.some.injEq] at hc; subst hc; rfl
    · simp at hc
  case slice t x lo hi mx =>
    cases mx <;> simp only [cOp, reduceCtorEq] at hc
    repeat' split at hc
    all_goals first
      | (simp only [reduceCtorEq] at hc; done)
      | (simp only [Option.some.injEq] at hc; subst hc; rfl)
  all_goals
    simp only [cOp] at hc
    repeat' split at hc
    all_goals first
      | (simp only [reduceCtorEq] at hc; done)
      | (rw [Option.map_eq_some_iff] at hc; obtain ⟨y, hy, rfl⟩ := hc; rfl)
      | (simp only [Option.some.injEq] at hc; subst hc; rfl)

/-- THE LAW of the operations that make memory. -/
theorem alloc_ok {o : Oper} {eo : EOp} (hc : cOp P o = some eo) (hp : eo.isAlloc = true) {e : Env} {a : Act} (hE : VRL R e a.tmps.toList) {X : Ctx} {H H' : Heap} {v : V}
    (h : evalOp X e H eo = some (v, H')) : (H' = H ∨ ∃ bx, H' = H ++ [bx]) ∧ ∀ {g g' : Get} {w : World}, Rel R g w → (∀ v, R.loc H.length v = none) → R.mp H.length = none →
      (∀ bx, H' = H ++ [bx] → g' H.length = some bx) → (∀ k, k ≠ H.length → ((∃ v L, R.loc k v = some L) ∨ ∃ r, R.mp k = some r) → g' k = g k) →
      MemRun P R w (execOp a.eval o) v g' (fun b => b = H.length ∧ ∃ bx, H' = H ++ [bx]) := by
  obtain ⟨dst, op, ty, pos, after, guard⟩ := o
  cases op with
  | alloc t =>
    simp only [cOp, Option.map_eq_some_iff] at hc
    obtain ⟨z, hz, rfl⟩ := hc
    simp only [evalOp, newBox] at h
    split at h
    · rename_i hone
      simp only [Option.some.injEq, Prod.mk.injEq] at h
      obtain ⟨rfl, rfl⟩ := h
      refine ⟨.inr ⟨_, rfl⟩, fun hrel hb hm hg hk => ?_⟩
      rename_i g g' w
      obtain ⟨i, zv, hi, hzv, hrz⟩ := zeroT_ok (R := R) hz
      obtain ⟨h1, h2⟩ := hrel.allocRow (t := t) hb hm (hg _ rfl) hk hone hrz
      refine ⟨_, _, _, .inl ?_, h2, h1, .ptr (Ren.addLoc_self _ _ _ _) (Nat.zero_le _) (by simp), fun b hb => (Ren.addLoc_dom hb).imp id fun e => ⟨e, _, rfl⟩⟩
      simp [execOp, Instr.alloc, run_zero hi hzv, newVar, newRow]
    · simp at h
  | box t x =>
    simp only [cOp, Option.map_eq_some_iff] at hc
    obtain ⟨y, hy, rfl⟩ := hc
    have rx := (opd_ok hy hE).cells
    simp only [evalOp, newBox] at h
    split at h
    · rename_i hone
      simp only [Option.some.injEq, Prod.mk.injEq] at h
      obtain ⟨rfl, rfl⟩ := h
      refine ⟨.inr ⟨_, rfl⟩, fun hrel hb hm hg hk => ?_⟩
      rename_i g g' w
      obtain ⟨h1, h2⟩ := hrel.allocRow (t := t) hb hm (hg _ rfl) hk hone rx
      refine ⟨_, _, _, .inl ?_, h2, h1, .ptr (Ren.addLoc_self _ _ _ _) (Nat.zero_le _) (by simp), fun b hb => (Ren.addLoc_dom hb).imp id fun e => ⟨e, _, rfl⟩⟩
      simp [execOp, Instr.box, newVar, newRow]
    · simp at h
  | buildSlice t len parts =>
    simp only [cOp] at hc
    split at hc
    · rename_i el n hel
      split at hc
      · rename_i z hz
        split at hc
        · rename_i hcond
          rw [Option.map_eq_some_iff] at hc
          obtain ⟨ps, hps, rfl⟩ := hc
          simp only [Bool.and_eq_true, decide_eq_true_eq, beq_iff_eq, Bool.or_eq_true, bne_iff_ne, ne_eq] at hcond
          obtain ⟨⟨⟨hn0, hzl⟩, hsmall⟩, hparts⟩ := hcond
          have hu := elemSlice_ok hel
          obtain ⟨i, zv, hi, hzv, hrz⟩ := zeroT_ok (R := R) hz
          have hzvl : zv.cells.size = n := by
            have := hrz.length
            simp at this; omega
          simp only [evalOp] at h
          have hlim : ¬ len * n > 2 ^ 24 := by omega
          have hmulz : len ≠ 0 → ¬ len * n = 0 := by
            intro hl0 hm
            rcases Nat.mul_eq_zero.1 hm with h0 | h0 <;> omega
          have hzero : ∀ w, (if len * n = 0 then pure #[] else do pure (← zeroValue el).cells : Sem (Array Value)).run P w = .ok (if len * n = 0 then #[] else zv.cells) w := by
            intro w
            split
            · rfl
            · simp [run_zero hi hzv]
          split at h
          · rename_i hl0
            simp only [Option.some.injEq, Prod.mk.injEq] at h
            obtain ⟨rfl, rfl⟩ := h
            subst hl0
            have hnil : parts = #[] := by
              rcases hparts with hq | hq
              · exact absurd rfl hq
              · simpa using hq
            subst hnil
            refine ⟨.inl rfl, fun hrel hb hm hg hk => ?_⟩
            rename_i g g' w
            obtain ⟨h1, h2⟩ := hrel.junk (.cells #[] el)
            have h1' : Rel R g' (w.alloc (.cells #[] el)) := h1.congr (same_named hb hm hk)
            refine ⟨.slice (some ⟨w.heap.size, 0, none⟩) 0 0, _, _, .inl ?_, h2, h1', .emp0, fun b hb => .inl hb⟩
            simp [execOp, Instr.buildSlice, run_underlying hu.1, run_sizeT hu.2, newRow, Instr.fill, Array.range]
            congr 2
            exact Array.eq_empty_of_size_eq_zero (by simp)
          · rename_i hl0
            split at h
            · rename_i cs hcs
              split at h
              · rename_i hone
                simp only [Option.some.injEq, Prod.mk.injEq] at h
                obtain ⟨rfl, rfl⟩ := h
                refine ⟨.inr ⟨_, rfl⟩, fun hrel hb hm hg hk => ?_⟩
                rename_i g g' w
                have hrep := repeat_ok hrz len
                rw [hzvl] at hrep
                obtain ⟨ys, hy1, hy2⟩ := cParts_ok hps hE hrep hcs
                obtain ⟨h1, h2⟩ := hrel.allocRow (t := el) hb hm (hg _ rfl) hk hone hy2
                have hcsl : cs.length = len * n := by
                  have : ∀ (ps : List (Nat × Nat × V)) (l m : List V), fillE l ps = some m → m.length = l.length := by
                    intro ps
                    induction ps with
                    | nil => intro l m hf; simp only [fillE, Option.some.injEq] at hf; rw [hf]
                    | cons p ps ih =>
                      intro l m hf
                      obtain ⟨o1, s1, v1⟩ := p
                      simp only [fillE] at hf
                      split at hf
                      · rename_i hcnd
                        rw [ih _ _ hf, length_splice (by omega)]
                      · simp at hf
                  rw [this _ _ _ hcs, length_repeatL, hzl]
                refine ⟨.slice (some ⟨w.heap.size, 0, none⟩) len len, _, _, .inl ?_, h2, h1, ?_, fun b hb => (Ren.addLoc_dom hb).imp id fun e => ⟨e, _, rfl⟩⟩
                · have hp : (parts.map fun (x : Nat × Operand) => (x.1, a.eval x.2)).toList = parts.toList.map fun p => (p.1, a.eval p.2) := by simp
                  simp only [execOp, Instr.buildSlice, Sem.run_bind, run_underlying hu.1, Result.andThen_ok, run_sizeT hu.2, if_neg hlim]
                  simp only [if_neg (hmulz hl0), Sem.run_bind, run_zero hi hzv, Sem.run_pure, Result.andThen_ok]
                  have hy1' : Instr.fill (fun i => some (i * n, n)) (Array.map (fun x => zv.cells[x % zv.cells.size]!) (Array.range (len * n))) (parts.map fun (x : Nat × Operand) => (x.1, a.eval x.2)).toList = some ys := by
                    rw [hp, hzvl]; exact hy1
                  rw [hy1']
                  simp [newRow]
                · exact .slice (Ren.addLoc_self _ _ _ _) (Nat.zero_le _) (by simp; omega) (Nat.le_refl _) (by simp) (by simp)
              · simp at h
            · simp at h
        · simp at hc
      · simp at hc
    · simp at hc
  | makeMap t r =>
    cases r <;> simp only [cOp, reduceCtorEq] at hc
    split at hc
    · split at hc
      · simp only [Option.some.injEq] at hc; subst hc
        simp only [evalOp, Option.some.injEq, Prod.mk.injEq] at h
        obtain ⟨rfl, rfl⟩ := h
        refine ⟨.inr ⟨_, rfl⟩, fun hrel hb hm hg hk => ?_⟩
        rename_i g g' w
        obtain ⟨h1, h2⟩ := hrel.newMap hb hm (hg _ rfl) hk
        refine ⟨.map (some w.heap.size), _, _, .inl ?_, h2, h1, .map (by simp [Ren.addMp]), fun b hb => (Ren.addMp_dom hb).imp id fun e => ⟨e, _, rfl⟩⟩
        simp [execOp, Instr.makeMap]
      · simp at hc
    · simp at hc
  | makeSlice t l c =>
    simp only [cOp] at hc
    split at hc
    · rename_i el n hel
      split at hc
      · rename_i z bs l1 c1 hz hbs hl hcc
        split at hc
        · rename_i hcond
          simp only [Option.some.injEq] at hc; subst hc
          have hu := elemSlice_ok hel
          obtain ⟨i, zv, hi, hzv, hrz⟩ := zeroT_ok (R := R) hz
          obtain ⟨i2, hi2, hib⟩ := bytesT_ok hbs
          rw [hi] at hi2
          simp only [Option.some.injEq] at hi2; subst hi2
          simp only [Bool.and_eq_true, decide_eq_true_eq, beq_iff_eq] at hcond
          obtain ⟨hn0, hzl⟩ := hcond
          have hzvl : zv.cells.size = n := by
            have := hrz.length
            simp at this; omega
          have rl := opd_ok hl hE
          have rc := opd_ok hcc hE
          simp only [evalOp] at h
          split at h
          · rename_i k1 lv k2 cv hlv hcv
            rw [hlv] at rl
            rw [hcv] at rc
            cases hla : a.eval l <;> rw [hla] at rl <;> cases rl
            cases hca : a.eval c <;> rw [hca] at rc <;> cases rc
            split at h
            · rename_i hcnd
              obtain ⟨hl0, rfl, hc40, hc47, hzone, _⟩ := hcnd
              have hw := wrap_small hl0 hc40
              have hrun : ∀ w, (execOp a.eval ⟨dst, .makeSlice t l c, ty, pos, after, guard⟩).run P w =
                  .ok (.value (.slice (some ⟨w.heap.size, 0, none⟩) lv.toNat lv.toNat)) (w.alloc (.cells (if lv.toNat * n = 0 then #[] else (Array.range (lv.toNat * n)).map (zv.cells[· % zv.cells.size]!)) el)) := by
                intro w
                have hlarge : ¬ ((i.bytes : Int) * lv > 2 ^ 48) := by
                  have : (lv * (bs : Int)) ≤ 2 ^ 47 := hc47
                  rw [hib, Int.mul_comm]; omega
                have hneg : ¬ lv < 0 := by omega
                have hgt : ¬ lv > lv := by omega
                simp only [execOp, Instr.makeSlice, Sem.run_bind, run_underlying hu.1, Result.andThen_ok, hla, hca, asInt, asIntOf, Sem.run_pure, run_infoT hi, hw]
                simp only [decide_eq_false hneg, decide_eq_false hlarge, decide_eq_false hgt, Bool.or_false, Bool.false_eq_true, if_false, Sem.run_bind, run_askRoom, Result.andThen_ok, run_sizeT hu.2]
                by_cases h0 : lv.toNat * n = 0
                · simp only [h0, if_true, Sem.run_pure, Result.andThen_ok, newRow, Sem.run_bind, run_newObj]
                  have : (Array.range 0).map (fun x => (#[] : Array Value)[x % (#[] : Array Value).size]!) = #[] := Array.eq_empty_of_size_eq_zero (by simp)
                  rw [this]
                  rfl
                · simp only [h0, if_false, Sem.run_pure, Result.andThen_ok, newRow, Sem.run_bind, run_newObj, run_zero hi hzv]
                  rfl
              by_cases hl1 : lv = 0
              · subst hl1
                simp only [if_true, Option.some.injEq, Prod.mk.injEq] at h
                obtain ⟨rfl, rfl⟩ := h
                refine ⟨.inl rfl, fun hrel hb hm hg hk => ?_⟩
                rename_i g g' w
                obtain ⟨h1, h2⟩ := hrel.junk (.cells (if (0 : Int).toNat * n = 0 then #[] else (Array.range ((0 : Int).toNat * n)).map (zv.cells[· % zv.cells.size]!)) el)
                exact ⟨_, _, _, .inl (hrun w), h2, h1.congr (same_named hb hm hk), .emp0, fun b hb => .inl hb⟩
              · rw [if_neg hl1] at h
                simp only [Option.some.injEq, Prod.mk.injEq] at h
                obtain ⟨rfl, rfl⟩ := h
                have hne : ¬ lv.toNat * n = 0 := by
                  intro h0
                  rcases Nat.mul_eq_zero.1 h0 with h1 | h1 <;> omega
                refine ⟨.inr ⟨_, rfl⟩, fun hrel hb hm hg hk => ?_⟩
                rename_i g g' w
                have hrep := repeat_ok hrz lv.toNat
                rw [hzvl] at hrep
                obtain ⟨h1, h2⟩ := hrel.allocRow (t := el) hb hm (hg _ rfl) hk (all_repeatL hzone _) hrep
                refine ⟨.slice (some ⟨w.heap.size, 0, none⟩) lv.toNat lv.toNat, _, _, .inl ?_, h2, h1, ?_, fun b hb => (Ren.addLoc_dom hb).imp id fun e => ⟨e, _, rfl⟩⟩
                · rw [hrun w]
                  rw [if_neg hne, hzvl]
                · exact .slice (Ren.addLoc_self _ _ _ _) (Nat.zero_le _) (by simp [length_repeatL, hzl]) (Nat.le_refl _) (by simp) (by simp)
            · simp at h
          · simp at h
        · simp at hc
      · simp at hc
    · simp at hc
  | _ =>
    have := notAlloc hc rfl
    rw [hp] at this
    simp at this

end
end Go.PE
