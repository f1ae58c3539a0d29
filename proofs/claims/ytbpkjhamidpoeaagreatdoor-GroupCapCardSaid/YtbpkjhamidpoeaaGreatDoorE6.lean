/- The operations that touch no memory: what the evaluator computes is what the model's operation gives. Nothing of a program stands here. -/
import Derived.Test.YtbpkjhamidpoeaaGreatDoorE5
import Derived.Laws.StructEq
import Derived.Laws.Strings3
namespace Go.PE

section
variable {P : Program} {R : Ren}

theorem ofCell_ok {v : Value} {x : V} (h : ofCell v = some x) : VR R x v := by
  unfold ofCell at h
  split at h <;> first
    | (simp only [Option.some.injEq] at h; subst h; constructor)
    | simp at h

theorem ofCells_ok : ∀ {l : List Value} {xs : List V}, ofCells l = some xs → VRL R xs l
  | [], xs, h => by simp [ofCells] at h; subst h; exact .nil
  | v :: l, xs, h => by
    unfold ofCells at h
    split at h
    · rename_i y ys h1 h2
      simp only [Option.some.injEq] at h; subst h
      exact .cons (ofCell_ok h1) (ofCells_ok h2)
    · simp at h

theorem ofConst_ok {v : Value} {x : V} (h : ofConst v = some x) : VR R x v := by
  unfold ofConst at h
  split at h
  · rw [Option.map_eq_some_iff] at h
    obtain ⟨l, hl, rfl⟩ := h
    exact .agg (ofCells_ok hl)
  · split at h
    · rename_i vs he
      simp only [Option.some.injEq] at h; subst h
      have : vs = #[] := by simpa using he
      subst this
      exact .tup .nil
    · simp at h
  · exact ofCell_ok h

theorem opd_ok {x : Operand} {y : Opd} (h : cOpd x = some y) {e : Env} {a : Act} (hE : VRL R e a.tmps.toList) : VR R (y.ev e) (a.eval x) := by
  cases x with
  | tmp t =>
    simp only [cOpd, Option.some.injEq] at h; subst h
    have := hE.getD t
    simpa [Opd.ev, Act.eval, List.getD_eq_getElem?_getD, Array.getD_eq_getD_getElem?] using this
  | const v =>
    simp only [cOpd, Option.map_eq_some_iff] at h
    obtain ⟨z, hz, rfl⟩ := h
    exact ofConst_ok hz
  | global g => simp [cOpd] at h
  | func f =>
    simp only [cOpd, Option.some.injEq] at h; subst h
    exact .fn .nil .nil

theorem opds_ok : ∀ {l : List Operand} {ys : List Opd}, cOpds l = some ys → ∀ {e : Env} {a : Act}, VRL R e a.tmps.toList → VRL R (ys.map (Opd.ev e)) (l.map a.eval)
  | [], ys, h, _, _, _ => by simp [cOpds] at h; subst h; exact .nil
  | x :: l, ys, h, e, a, hE => by
    unfold cOpds at h
    split at h
    · rename_i y zs h1 h2
      simp only [Option.some.injEq] at h; subst h
      exact .cons (opd_ok h1 hE) (opds_ok h2 hE)
    · simp at h

theorem sizeT_ok {t : TypeId} {n : Nat} (h : sizeT P t = some n) : ∃ i, P.info? t = some i ∧ i.size = n := by
  unfold sizeT at h
  rw [Option.map_eq_some_iff] at h
  exact h

theorem bytesT_ok {t : TypeId} {n : Nat} (h : bytesT P t = some n) : ∃ i, P.info? t = some i ∧ i.bytes = n := by
  unfold bytesT at h
  rw [Option.map_eq_some_iff] at h
  exact h

theorem run_sizeT {t : TypeId} {n : Nat} (h : sizeT P t = some n) (w : World) : (sizeOf t).run P w = .ok n w := by
  obtain ⟨i, hi, rfl⟩ := sizeT_ok h
  simp [sizeOf, typeInfo, hi]

theorem run_infoT {t : TypeId} {i : TypeInfo} (h : P.info? t = some i) (w : World) : (typeInfo t).run P w = .ok i w := by
  simp [typeInfo, h]

theorem run_isAgg {t : TypeId} {d : TypeDesc} (h : P.underlying t = some d) (w : World) : (isAgg t).run P w = .ok (aggT P t) w := by
  unfold isAgg aggT
  rw [Sem.run_bind, run_underlying h w, h]
  cases d <;> rfl

theorem shapeT_ok {t : TypeId} {g : Bool} {n : Nat} (h : shapeT P t = some (g, n)) :
    sizeT P t = some n ∧ aggT P t = g ∧ (∃ d, P.underlying t = some d) ∧ (g = false → n = 1) ∧ 0 < n := by
  unfold shapeT at h
  split at h
  · rename_i m hm
    split at h
    · simp at h
    · rename_i hn
      have hu : ∃ d, P.underlying t = some d := by
        cases hd : P.underlying t with
        | none => simp [hd] at hn
        | some d => exact ⟨d, rfl⟩
      split at h
      · rename_i ha
        split at h
        · rename_i h0
          simp only [Option.some.injEq, Prod.mk.injEq] at h
          obtain ⟨rfl, rfl⟩ := h
          exact ⟨hm, ha, hu, by simp, h0⟩
        · simp at h
      · rename_i ha
        split at h
        · rename_i h1
          simp only [Option.some.injEq, Prod.mk.injEq] at h
          obtain ⟨rfl, rfl⟩ := h
          exact ⟨by rw [hm, h1], by simpa using ha, hu, fun _ => rfl, by omega⟩
        · simp at h
  · simp at h

theorem zeroT_ok {t : TypeId} {z : List V} (h : zeroT P t = some z) : ∃ i v, P.info? t = some i ∧ i.zero = some v ∧ VRL R z v.cells.toList := by
  unfold zeroT at h
  rw [Option.bind_eq_some_iff] at h
  obtain ⟨v, hv, hz⟩ := h
  rw [Option.bind_eq_some_iff] at hv
  obtain ⟨i, hi, hv⟩ := hv
  exact ⟨i, v, hi, hv, ofCells_ok hz⟩

theorem run_zero {t : TypeId} {i : TypeInfo} {v : Value} (h : P.info? t = some i) (hv : i.zero = some v) (w : World) : (zeroValue t).run P w = .ok v w := by
  simp [zeroValue, typeInfo, h, hv]

/-- A part of an aggregate. -/
theorem run_part {t : TypeId} {g : Bool} {n off : Nat} (hs : shapeT P t = some (g, n)) {cs : List V} {xs : Array Value} (hx : VRL R cs xs.toList) {v : V}
    (hle : off + n ≤ cs.length) (hm : mk g ((cs.drop off).take n) = some v) : ∃ v', (∀ w, (part t xs off).run P w = .ok v' w) ∧ VR R v v' := by
  obtain ⟨h1, h2, ⟨d, h3⟩, h4, h5⟩ := shapeT_ok hs
  cases g with
  | true =>
    simp only [mk, if_true, Option.some.injEq] at hm; subst hm
    refine ⟨.agg (xs.extract off (off + n)), fun w => ?_, .agg ?_⟩
    · simp [part, run_isAgg h3, h2, run_sizeT h1]
    · have := (hx.drop off).take n
      simpa [List.drop_take] using this
  | false =>
    have hn := h4 rfl
    subst hn
    simp only [mk, if_false, Bool.false_eq_true] at hm
    split at hm
    · rename_i y hy
      simp only [Option.some.injEq] at hm; subst hm
      have h0 : cs[off]? = some y := by
        have : ((cs.drop off).take 1)[0]? = some y := by rw [hy]; rfl
        simpa [List.getElem?_take] using this
      obtain ⟨y', hy', hr⟩ := hx.get h0
      refine ⟨y', fun w => ?_, hr⟩
      have : xs[off]? = some y' := by simpa using hy'
      simp [part, run_isAgg h3, h2, this]
    · simp at hm

theorem lenE_ok {v : V} {x : Value} {n : Nat} (h : VR R v x) (hn : lenE v = some n) : (∃ s, v = .str s ∧ x = .string s ∧ n = s.size) ∨ ∃ a c, x = .slice a n c := by
  cases h <;> simp only [lenE, Option.some.injEq, reduceCtorEq] at hn <;> first
    | (subst hn; exact .inl ⟨_, rfl, rfl, rfl⟩)
    | (subst hn; exact .inr ⟨_, _, rfl⟩)

theorem mk_list {g : Bool} {cs : List V} {xs : List Value} (hx : VRL R cs xs) {v : V} (h : mk g cs = some v) (hg : g = false → cs.length = 1) :
    VR R v (if g then .agg xs.toArray else xs.getD 0 undef) := by
  cases g with
  | true =>
    simp only [mk, if_true, Option.some.injEq] at h; subst h
    exact .agg (by simpa using hx)
  | false =>
    simp only [mk, Bool.false_eq_true, if_false] at h
    split at h
    · rename_i y
      simp only [Option.some.injEq] at h; subst h
      cases hx with
      | cons a b => simpa using a
    · simp at h

theorem arith_ok {op : BinOp} {k : IntKind} {x y : Int} {v : V} (h : arithE op k x y = some v) :
    ∃ v', (∀ w, ((match op with
      | .add | .sub | .mul => Op.intArith op k x y
      | .quo | .rem => Op.intDiv op k x y
      | .and | .or | .xor | .andNot => Op.intBits op k x y
      | _ => Op.intCmp op x y : Sem Value)).run P w = .ok v' w) ∧ VR R v v' := by
  cases op <;> simp only [arithE, Option.some.injEq, reduceCtorEq] at h <;> first
    | (subst h; exact ⟨_, fun w => rfl, by constructor⟩)
    | (split at h
       · simp at h
       · rename_i hz
         simp only [Option.some.injEq] at h; subst h
         exact ⟨_, fun w => by simp [Op.intDiv, hz]; rfl, by constructor⟩)

theorem shift_ok {op : BinOp} {k k' : IntKind} {x y : Int} {v : V} (h : shiftE op k x y = some v) :
    ∃ v', (∀ w, (Op.shift op k x k' y).run P w = .ok v' w) ∧ VR R v v' := by
  unfold shiftE at h
  split at h
  · simp at h
  · rename_i hy
    cases op <;> simp only [Option.some.injEq, reduceCtorEq] at h
    all_goals
      subst h
      exact ⟨_, fun w => by simp [Op.shift, hy]; rfl, by constructor⟩

theorem catStr_eq (x y : ByteArray) : catStr x y = x ++ y := by
  apply ByteArray.ext
  apply Array.ext'
  simp [catStr]

theorem subStr_eq (s : ByteArray) (l h : Nat) : subStr s l h = s.extract l h := by
  apply ByteArray.ext
  apply Array.ext'
  simp [subStr]

theorem eqStr_toList (x y : ByteArray) : eqStr x y = (x.toList == y.toList) := by
  rw [ByteArray.toList_eq, ByteArray.toList_eq]; rfl

theorem eqStr_beq (x y : ByteArray) : eqStr x y = (x == y) := by
  rw [beq_toListBytes, eqStr_toList]

theorem str_ok {op : BinOp} {x y : ByteArray} {v : V} (h : strE op x y = some v) :
    ∃ v', (∀ w, (Op.stringOp op x y).run P w = .ok v' w) ∧ VR R v v' := by
  cases op <;> simp only [strE, reduceCtorEq] at h
  case add =>
    split at h
    · rename_i hlt
      simp only [Option.some.injEq] at h; subst h
      have : ¬ ((x.size + y.size : Nat) : Int) > IntKind.i64.max := by
        have : IntKind.i64.max = 9223372036854775807 := by decide
        omega
      exact ⟨_, fun w => by simp only [Op.stringOp, if_neg this]; rfl, by rw [catStr_eq]; exact .str _⟩
    · simp at h

end
end Go.PE
