/- Its operations (part 1). Nothing of a program stands here. -/
import Derived.Test.YtmdnkhidhkbgcaaGreatDoorEA
import Derived.Laws.StructEq
import Derived.Laws.Strings3
import Derived.IntWalk
namespace Go.PE
section
variable {P : Program} {R : Ren}
theorem ofCell_ok {v : Value} {x : V} (h : ofCell v = some x) : VR R x v := by
  unfold ofCell at h
  split at h <;> first
    | (simp only [Option.some.injEq] at h; subst h; constructor)
    | simp at h
theorem ofCells_ok : ∀ {l : List Value} {xs : List V}, ofCells l = some xs → VRL R xs l
  | [], xs, h => by simp [ofCells] at h; subst h; exact .nil
  | v :: l, xs, h => by
    unfold ofCells at h
    split at h
    · rename_i y ys h1 h2
      simp only [Option.some.injEq] at h; subst h
      exact .cons (ofCell_ok h1) (ofCells_ok h2)
    · simp at h
theorem ofConst_ok {v : Value} {x : V} (h : ofConst v = some x) : VR R x v := by
  unfold ofConst at h
  split at h
  · rw [Option.map_eq_some_iff] at h
    obtain ⟨l, hl, rfl⟩ := h
    exact .agg (ofCells_ok hl)
  · split at h
    · rename_i vs he
      simp only [Option.some.injEq] at h; subst h
      have : vs = #[] := by simpa using he
      subst this
      exact .tup .nil
    · simp at h
  · exact ofCell_ok h
theorem opd_ok {x : Operand} {y : Opd} (h : cOpd x = some y) {e : Env} {a : Act} (hE : VRL R e a.tmps.toList) : VR R (y.ev e) (a.eval x) := by
  cases x with
  | tmp t =>
    simp only [cOpd, Option.some.injEq] at h; subst h
    have := hE.getD t
    simpa [Opd.ev, Act.eval, List.getD_eq_getElem?_getD, Array.getD_eq_getD_getElem?] using this
  | const v =>
    simp only [cOpd, Option.map_eq_some_iff] at h
    obtain ⟨z, hz, rfl⟩ := h
    exact ofConst_ok hz
  | global g => simp [cOpd] at h
  | func f =>
    simp only [cOpd, Option.some.injEq] at h; subst h
    exact .fn .nil .nil
theorem opds_ok : ∀ {l : List Operand} {ys : List Opd}, cOpds l = some ys → ∀ {e : Env} {a : Act}, VRL R e a.tmps.toList → VRL R (ys.map (Opd.ev e)) (l.map a.eval)
  | [], ys, h, _, _, _ => by simp [cOpds] at h; subst h; exact .nil
  | x :: l, ys, h, e, a, hE => by
    unfold cOpds at h
    split at h
    · rename_i y zs h1 h2
      simp only [Option.some.injEq] at h; subst h
      exact .cons (opd_ok h1 hE) (opds_ok h2 hE)
    · simp at h
theorem sizeT_ok {t : TypeId} {n : Nat} (h : sizeT P t = some n) : ∃ i, P.info? t = some i ∧ i.size = n := by
  unfold sizeT at h
  rw [Option.map_eq_some_iff] at h
  exact h
theorem bytesT_ok {t : TypeId} {n : Nat} (h : bytesT P t = some n) : ∃ i, P.info? t = some i ∧ i.bytes = n := by
  unfold bytesT at h
  rw [Option.map_eq_some_iff] at h
  exact h
theorem run_sizeT {t : TypeId} {n : Nat} (h : sizeT P t = some n) (w : World) : (sizeOf t).run P w = .ok n w := by
  obtain ⟨i, hi, rfl⟩ := sizeT_ok h
  simp [sizeOf, typeInfo, hi]
theorem run_infoT {t : TypeId} {i : TypeInfo} (h : P.info? t = some i) (w : World) : (typeInfo t).run P w = .ok i w := by
  simp [typeInfo, h]
theorem run_isAgg {t : TypeId} {d : TypeDesc} (h : P.underlying t = some d) (w : World) : (isAgg t).run P w = .ok (aggT P t) w := by
  unfold isAgg aggT
  rw [Sem.run_bind, run_underlying h w, h]
  cases d <;> rfl
theorem shapeT_ok {t : TypeId} {g : Bool} {n : Nat} (h : shapeT P t = some (g, n)) :
    sizeT P t = some n ∧ aggT P t = g ∧ (∃ d, P.underlying t = some d) ∧ (g = false → n = 1) ∧ 0 < n := by
  unfold shapeT at h
  split at h
  · rename_i m hm
    split at h
    · simp at h
    · rename_i hn
      have hu : ∃ d, P.underlying t = some d := by
        cases hd : P.underlying t with
        | none => simp [hd] at hn
        | some d => exact ⟨d, rfl⟩
      split at h
      · rename_i ha
        split at h
        · rename_i h0
          simp only [Option.some.injEq, Prod.mk.injEq] at h
          obtain ⟨rfl, rfl⟩ := h
          exact ⟨hm, ha, hu, by simp, h0⟩
        · simp at h
      · rename_i ha
        split at h
        · rename_i h1
          simp only [Option.some.injEq, Prod.mk.injEq] at h
          obtain ⟨rfl, rfl⟩ := h
          exact ⟨by rw [hm, h1], by simpa using ha, hu, fun _ => rfl, by omega⟩
        · simp at h
  · simp at h
theorem zeroT_ok {t : TypeId} {z : List V} (h : zeroT P t = some z) : ∃ i v, P.info? t = some i ∧ i.zero = some v ∧ VRL R z v.cells.toList := by
  unfold zeroT at h
  rw [Option.bind_eq_some_iff] at h
  obtain ⟨v, hv, hz⟩ := h
  rw [Option.bind_eq_some_iff] at hv
  obtain ⟨i, hi, hv⟩ := hv
  exact ⟨i, v, hi, hv, ofCells_ok hz⟩
theorem run_zero {t : TypeId} {i : TypeInfo} {v : Value} (h : P.info? t = some i) (hv : i.zero = some v) (w : World) : (zeroValue t).run P w = .ok v w := by
  simp [zeroValue, typeInfo, h, hv]
theorem run_part {t : TypeId} {g : Bool} {n off : Nat} (hs : shapeT P t = some (g, n)) {cs : List V} {xs : Array Value} (hx : VRL R cs xs.toList) {v : V}
    (hle : off + n ≤ cs.length) (hm : mk g ((cs.drop off).take n) = some v) : ∃ v', (∀ w, (part t xs off).run P w = .ok v' w) ∧ VR R v v' := by
  obtain ⟨h1, h2, ⟨d, h3⟩, h4, h5⟩ := shapeT_ok hs
  cases g with
  | true =>
    simp only [mk, if_true, Option.some.injEq] at hm; subst hm
    refine ⟨.agg (xs.extract off (off + n)), fun w => ?_, .agg ?_⟩
    · simp [part, run_isAgg h3, h2, run_sizeT h1]
    · have := (hx.drop off).take n
      simpa [List.drop_take] using this
  | false =>
    have hn := h4 rfl
    subst hn
    simp only [mk, if_false, Bool.false_eq_true] at hm
    split at hm
    · rename_i y hy
      simp only [Option.some.injEq] at hm; subst hm
      have h0 : cs[off]? = some y := by
        have : ((cs.drop off).take 1)[0]? = some y := by rw [hy]; rfl
        simpa [List.getElem?_take] using this
      obtain ⟨y', hy', hr⟩ := hx.get h0
      refine ⟨y', fun w => ?_, hr⟩
      have : xs[off]? = some y' := by simpa using hy'
      simp [part, run_isAgg h3, h2, this]
    · simp at hm
theorem lenE_ok {v : V} {x : Value} {n : Nat} (h : VR R v x) (hn : lenE v = some n) : (∃ s, v = .str s ∧ x = .string s ∧ n = s.size) ∨ ∃ a c, x = .slice a n c := by
  cases h <;> simp only [lenE, Option.some.injEq, reduceCtorEq] at hn <;> first
    | (subst hn; exact .inl ⟨_, rfl, rfl, rfl⟩)
    | (subst hn; exact .inr ⟨_, _, rfl⟩)
theorem arith_ok {op : BinOp} {k : IntKind} {x y : Int} {v : V} (h : arithE op k x y = some v) :
    ∃ v', (∀ w, ((match op with
      | .add | .sub | .mul => Op.intArith op k x y
      | .quo | .rem => Op.intDiv op k x y
      | .and | .or | .xor | .andNot => Op.intBits op k x y
      | _ => Op.intCmp op x y : Sem Value)).run P w = .ok v' w) ∧ VR R v v' := by
  cases op <;> simp only [arithE, Option.some.injEq, reduceCtorEq] at h <;> first
    | (subst h; exact ⟨_, fun w => rfl, by constructor⟩)
    | (split at h
       · simp at h
       · rename_i hz
         simp only [Option.some.injEq] at h; subst h
         exact ⟨_, fun w => by simp [Op.intDiv, hz]; rfl, by constructor⟩)
theorem shift_ok {op : BinOp} {k k' : IntKind} {x y : Int} {v : V} (h : shiftE op k x y = some v) :
    ∃ v', (∀ w, (Op.shift op k x k' y).run P w = .ok v' w) ∧ VR R v v' := by
  unfold shiftE at h
  split at h
  · simp at h
  · rename_i hy
    cases op <;> simp only [Option.some.injEq, reduceCtorEq] at h
    all_goals
      subst h
      exact ⟨_, fun w => by simp [Op.shift, hy]; rfl, by constructor⟩
theorem catStr_eq (x y : ByteArray) : catStr x y = x ++ y := by
  apply ByteArray.ext
  apply Array.ext'
  simp [catStr]
theorem subStr_eq (s : ByteArray) (l h : Nat) : subStr s l h = s.extract l h := by
  apply ByteArray.ext
  apply Array.ext'
  simp [subStr]
theorem eqStr_toList (x y : ByteArray) : eqStr x y = (x.toList == y.toList) := by
  rw [ByteArray.toList_eq, ByteArray.toList_eq]; rfl
theorem str_ok {op : BinOp} {x y : ByteArray} {v : V} (h : strE op x y = some v) :
    ∃ v', (∀ w, (Op.stringOp op x y).run P w = .ok v' w) ∧ VR R v v' := by
  cases op <;> simp only [strE, reduceCtorEq] at h
  case add =>
    split at h
    · rename_i hlt
      simp only [Option.some.injEq] at h; subst h
      have : ¬ ((x.size + y.size : Nat) : Int) > IntKind.i64.max := by
        have : IntKind.i64.max = 9223372036854775807 := by decide
        omega
      exact ⟨_, fun w => by simp only [Op.stringOp, if_neg this]; rfl, by rw [catStr_eq]; exact .str _⟩
    · simp at h
end
end Go.PE
namespace Go.PE
section
variable {P : Program} {R : Ren}
def wrapT (P : Program) (t : TypeId) (xs : List Value) : Value := if aggT P t then .agg xs.toArray else xs.getD 0 undef
def Cov (o : Option Bool) (b : Bool) : Prop := ∀ x, o = some x → b = x
theorem Cov.of (b : Bool) : Cov (some b) b := fun _ h => Option.some.inj h
theorem Cov.eq {x b : Bool} (h : Cov (some x) b) : b = x := h x rfl
theorem Cov.and {o1 o2 : Option Bool} {b1 b2 : Bool} (h1 : Cov o1 b1) (h2 : Cov o2 b2) : Cov (and3 o1 o2) (b1 && b2) := by
  intro x h
  unfold and3 at h
  split at h
  · simp only [Option.some.injEq] at h; rw [h1.eq, ← h]; rfl
  · simp only [Option.some.injEq] at h; rw [h2.eq, ← h]; simp
  · simp only [Option.some.injEq] at h; rw [h1.eq, h2.eq, ← h]; rfl
  · simp at h
theorem and3_assoc (a b c : Option Bool) : and3 a (and3 b c) = and3 (and3 a b) c := by
  rcases a with _ | a <;> rcases b with _ | b <;> rcases c with _ | c <;> (try cases a) <;> (try cases b) <;> (try cases c) <;> rfl
theorem eqLs3_length : ∀ {ks : List Leaf} {us vs : List V} {b : Option Bool}, eqLs3 ks us vs = some b → us.length = ks.length ∧ vs.length = ks.length
  | [], [], [], _, _ => ⟨rfl, rfl⟩
  | [], _ :: _, _, _, h => by simp [eqLs3] at h
  | [], [], _ :: _, _, h => by simp [eqLs3] at h
  | _ :: _, [], _, _, h => by simp [eqLs3] at h
  | _ :: _, _ :: _, [], _, h => by simp [eqLs3] at h
  | k :: ks, u :: us, v :: vs, b, h => by
    unfold eqLs3 at h
    split at h
    · rename_i x y h1 h2
      have := eqLs3_length h2
      simp [this.1, this.2]
    · simp at h
theorem eqLs3_append : ∀ {ks ms : List Leaf} {us vs : List V} {b : Option Bool}, eqLs3 (ks ++ ms) us vs = some b →
    ∃ b1 b2, eqLs3 ks (us.take ks.length) (vs.take ks.length) = some b1 ∧ eqLs3 ms (us.drop ks.length) (vs.drop ks.length) = some b2 ∧ b = and3 b1 b2
  | [], ms, us, vs, b, h => ⟨some true, b, by simp [eqLs3], by simpa using h, by cases b with | none => rfl | some b => cases b <;> rfl⟩
  | k :: ks, ms, us, vs, b, h => by
    cases us with
    | nil => simp [eqLs3] at h
    | cons u us =>
      cases vs with
      | nil => simp [eqLs3] at h
      | cons v vs =>
        simp only [List.cons_append, eqLs3] at h
        split at h
        · rename_i x y h1 h2
          simp only [Option.some.injEq] at h; subst h
          obtain ⟨b1, b2, e1, e2, rfl⟩ := eqLs3_append h2
          refine ⟨and3 x b1, b2, ?_, by simpa using e2, and3_assoc x b1 b2⟩
          simp only [List.length_cons, List.take_succ_cons, eqLs3, h1, e1]
        · simp at h
theorem Dom.eqc_ok {g : Nat → Option Int} {d : Dom} {n c : Int} (h : d.holds g n) : Cov (d.eqc c) (n == c) := by
  intro x hx
  unfold Dom.eqc at hx
  have h1 := h.lo; have h2 := h.hi
  split at hx
  · rename_i hc
    simp only [Option.some.injEq] at hx; subst hx
    rw [beq_eq_false_iff_ne]
    rintro rfl
    rcases hc with hc | hc | hc
    · omega
    · omega
    · apply hc.2
      rw [← h.mod hc.1, Int.emod_emod_of_dvd _ (Int.dvd_refl _)]
  · split at hx
    · rename_i hc
      simp only [Option.some.injEq] at hx; subst hx
      rw [beq_iff_eq]; omega
    · simp at hx
theorem leaf_ok {k : Leaf} {a b : V} {x y : Value} {r : Option Bool} (h : eqLeaf3 k a b = some r) (hx : VR R a x) (hy : VR R b y) :
    (k = .bool ∧ ∃ p q, x = .bool p ∧ y = .bool q ∧ Cov r (p == q)) ∨ (k = .int ∧ ∃ j p q, x = .int j p ∧ y = .int j q ∧ Cov r (p == q)) ∨
    (k = .str ∧ ∃ p q, x = .string p ∧ y = .string q ∧ Cov r (eqStr p q)) := by
  unfold eqLeaf3 at h
  have hsz : ∀ {p q : ByteArray}, p.size ≠ q.size → eqStr p q = false := by
    intro p q hpq
    unfold eqStr
    rw [beq_eq_false_iff_ne]
    intro he
    apply hpq
    have := congrArg List.length he
    show p.data.size = q.data.size
    rw [← Array.length_toList, ← Array.length_toList]; exact this
  split at h
  · cases hx; cases hy
    simp only [Option.some.injEq] at h; subst h
    exact .inl ⟨rfl, _, _, rfl, rfl, Cov.of _⟩
  · split at h
    · rename_i hk
      subst hk
      cases hx; cases hy
      simp only [Option.some.injEq] at h; subst h
      exact .inr (.inl ⟨rfl, _, _, _, rfl, rfl, Cov.of _⟩)
    · simp at h
  · cases hx; cases hy
    simp only [Option.some.injEq] at h; subst h
    exact .inr (.inr ⟨rfl, _, _, rfl, rfl, Cov.of _⟩)
  · split at h
    · rename_i hk
      subst hk
      cases hx with
      | abs hd =>
        cases hy
        simp only [Option.some.injEq] at h; subst h
        exact .inr (.inl ⟨rfl, _, _, _, rfl, rfl, Dom.eqc_ok hd⟩)
    · simp at h
  · split at h
    · rename_i hk
      subst hk
      cases hy with
      | abs hd =>
        cases hx
        simp only [Option.some.injEq] at h; subst h
        refine .inr (.inl ⟨rfl, _, _, _, rfl, rfl, ?_⟩)
        rw [BEq.comm]
        exact Dom.eqc_ok hd
    · simp at h
  · split at h
    · rename_i hk
      subst hk
      cases hx with
      | abs hd =>
        cases hy with
        | abs hd' =>
          simp only [Option.some.injEq] at h; subst h
          refine .inr (.inl ⟨rfl, _, _, _, rfl, rfl, ?_⟩)
          intro x hx
          split at hx
          · rename_i hi
            simp only [Bool.and_eq_true, beq_iff_eq] at hi
            obtain ⟨i, hi1⟩ := Option.isSome_iff_exists.1 hi.1
            obtain ⟨a1, q1, q2⟩ := hd.id i hi1
            obtain ⟨a2, q3, q4⟩ := hd'.id i (by rw [← hi.2]; exact hi1)
            rw [q1] at q3
            simp only [Option.some.injEq] at q3 hx
            subst q3; subst hx; subst q2; subst q4
            rw [Bool.eq_iff_iff]
            simp only [beq_iff_eq]
            omega
          · simp at hx
    · simp at h
  · cases hx with
    | syms h1 h2 h3 =>
      cases hy with
      | syms h4 h5 h6 =>
        simp only [Option.some.injEq] at h; subst h
        refine .inr (.inr ⟨rfl, _, _, rfl, rfl, ?_⟩)
        intro x hx
        split at hx
        · rename_i hi
          subst hi
          rw [h1] at h4
          simp only [Option.some.injEq] at h4 hx
          subst h4; subst hx
          simp [eqStr]
        · simp at hx
  · cases hx with
    | syms h1 h2 h3 =>
      cases hy
      simp only [Option.some.injEq] at h; subst h
      refine .inr (.inr ⟨rfl, _, _, rfl, rfl, ?_⟩)
      intro x hx
      split at hx
      · simp only [Option.some.injEq] at hx; subst hx
        exact hsz (by omega)
      · simp at hx
  · cases hy with
    | syms h1 h2 h3 =>
      cases hx
      simp only [Option.some.injEq] at h; subst h
      refine .inr (.inr ⟨rfl, _, _, rfl, rfl, ?_⟩)
      intro x hx
      split at hx
      · simp only [Option.some.injEq] at hx; subst hx
        exact hsz (by omega)
      · simp at hx
  · simp at h
theorem one_of_length {l : List V} {xs : List Value} (h : VRL R l xs) (hl : l.length = 1) : ∃ v x, l = [v] ∧ xs = [x] ∧ VR R v x := by
  cases h with
  | nil => simp at hl
  | cons a b =>
    cases b with
    | nil => exact ⟨_, _, rfl, rfl, a⟩
    | cons _ _ => simp at hl
theorem leafsT_nonagg {d : Nat} {t : TypeId} {ks : List Leaf} (h : leafsT P d t = some ks) (ha : aggT P t = false) : ks.length = 1 ∧ ∃ u, P.underlying t = some u := by
  cases d with
  | zero => simp [leafsT] at h
  | succ d =>
    unfold leafsT at h
    unfold aggT at ha
    cases hu : P.underlying t with
    | none => simp [hu] at h
    | some u =>
      rw [hu] at h ha
      cases u <;> simp at h ha <;> (subst h; exact ⟨rfl, _, rfl⟩)
theorem leafsT_agg {d : Nat} {t : TypeId} {ks : List Leaf} (h : leafsT P d t = some ks) : ∃ u, P.underlying t = some u := by
  cases d with
  | zero => simp [leafsT] at h
  | succ d =>
    unfold leafsT at h
    cases hu : P.underlying t with
    | none => simp [hu] at h
    | some u => exact ⟨u, rfl⟩
theorem run_partL {d : Nat} {t : TypeId} {ks : List Leaf} {n off : Nat} (h : leafsT P d t = some ks) (hn : sizeT P t = some n) (hk : ks.length = n) (xs : List Value) (hle : off + n ≤ xs.length) (w : World) :
    (part t xs.toArray off).run P w = .ok (wrapT P t ((xs.drop off).take n)) w := by
  obtain ⟨u, hu⟩ := leafsT_agg h
  unfold wrapT
  cases ha : aggT P t with
  | true =>
    simp [part, run_isAgg hu, ha, run_sizeT hn]
  | false =>
    obtain ⟨h1, _⟩ := leafsT_nonagg h ha
    have h1n : n = 1 := by omega
    subst h1n
    have hx : xs[off]? = some (xs[off]'(by omega)) := List.getElem?_eq_getElem (by omega)
    simp [part, run_isAgg hu, ha, hx, List.getElem?_drop]
theorem run_eqFields {d D : Nat} (ih : ∀ t ks, leafsT P d t = some ks → ∀ us vs xs ys o, VRL R us xs → VRL R vs ys → eqLs3 ks us vs = some o → ∃ b, Cov o b ∧ ∀ w,
      (Op.equalIn D t (wrapT P t xs) (wrapT P t ys)).run P w = .ok b w) (us vs : List V) (xs ys : List Value) (hx : VRL R us xs) (hy : VRL R vs ys) :
    ∀ (fs : List Field) (off : Nat) (ks : List Leaf), leafsF P (leafsT P d) fs off = some ks → ∀ o, eqLs3 ks (us.drop off) (vs.drop off) = some o → ∃ b, Cov o b ∧ ∀ w,
      (Op.eqFields D xs.toArray ys.toArray fs).run P w = .ok b w
  | [], off, ks, h, b, hb => by
    simp only [leafsF, Option.some.injEq] at h; subst h
    have := eqLs3_length hb
    cases hu : us.drop off with
    | cons _ _ => simp [hu] at this
    | nil =>
      cases hv : vs.drop off with
      | cons _ _ => simp [hv] at this
      | nil =>
        rw [hu, hv] at hb
        simp only [eqLs3, Option.some.injEq] at hb; subst hb
        exact ⟨true, Cov.of _, fun w => rfl⟩
  | f :: fs, off, ks, h, b, hb => by
    unfold leafsF at h
    split at h
    · rename_i hc
      simp only [Bool.and_eq_true, bne_iff_ne, ne_eq, beq_iff_eq] at hc
      obtain ⟨hname, hoff⟩ := hc
      split at h
      · rename_i l n hl hn
        split at h
        · rename_i hln0
          obtain ⟨hln, hn0⟩ := hln0
          rw [Option.map_eq_some_iff] at h
          obtain ⟨ms, hms, rfl⟩ := h
          obtain ⟨o1, o2, e1, e2, rfl⟩ := eqLs3_append hb
          have hlen := eqLs3_length hb
          simp only [List.length_append, List.length_drop] at hlen
          have hxl := hx.length
          have hyl := hy.length
          rw [hln] at e1 e2
          rw [List.drop_drop] at e2
          rw [List.drop_drop] at e2
          obtain ⟨b1, c1, he⟩ := ih f.type l hl _ _ _ _ o1 ((hx.drop off).take n) ((hy.drop off).take n) e1
          obtain ⟨b2, c2, hrec⟩ := run_eqFields ih us vs xs ys hx hy fs (off + n) ms hms o2 e2
          refine ⟨b1 && b2, c1.and c2, fun w => ?_⟩
          have p1 := run_partL hl hn hln xs (off := off) (by omega) w
          have p2 := run_partL hl hn hln ys (off := off) (by omega) w
          simp only [Op.eqFields, ne_eq, hname, not_false_eq_true, if_true, Sem.run_bind, hoff, p1, p2, Result.andThen_ok, he, Sem.run_ite]
          cases b1
          · simp
          · simpa using hrec w
        · simp at h
      · simp at h
    · simp at h
def eqElems (D : Nat) (e : TypeId) (xs ys : Array Value) (n : Nat) : Nat → Nat → Sem Bool
  | 0, _ => pure true
  | k + 1, i => do
    let a ← part e xs (i * n)
    let b ← part e ys (i * n)
    let r ← Op.equalIn D e a b
    if (!r) = true then pure false else eqElems D e xs ys n k (i + 1)
theorem run_equalIn_array {D : Nat} {t e : TypeId} {len n : Nat} (ht : P.underlying t = some (.array len e)) (hn : sizeT P e = some n) (xs ys : Array Value) (w : World) :
    (Op.equalIn (D + 1) t (.agg xs) (.agg ys)).run P w = (eqElems D e xs ys n len 0).run P w := by
  simp only [Op.equalIn, Sem.run_bind, run_underlying ht, Result.andThen_ok, run_sizeT hn]
  rw [Std.Legacy.Range.forIn_eq_forIn_range']
  simp only [Std.Legacy.Range.size, Nat.sub_zero, Nat.add_sub_cancel, Nat.div_one]
  have key : ∀ (k i : Nat) (w : World), ((forIn (List.range' i k) (none, PUnit.unit) fun (i : Nat) (_ : Option Bool × PUnit) => (do
        let a ← part e xs (i * n)
        let b ← part e ys (i * n)
        let r ← Op.equalIn D e a b
        if (!r) = true then pure (ForInStep.done (some false, PUnit.unit)) else do pure PUnit.unit; pure (ForInStep.yield (none, PUnit.unit)) : Sem (ForInStep (Option Bool × PUnit)))).run P w).andThen
        (fun (r : Option Bool × PUnit) w' => (match r.1 with | some a => pure a | none => pure true : Sem Bool).run P w') = (eqElems D e xs ys n k i).run P w := by
    intro k
    induction k with
    | zero => intro i w; simp [eqElems]
    | succ k ih =>
      intro i w
      simp only [List.range'_succ, List.forIn_cons, eqElems, Sem.run_bind]
      generalize (part e xs (i * n)).run P w = r1
      cases r1 with
      | halt x w1 => simp [Result.andThen]
      | ok a w1 =>
        simp only [Result.andThen_ok]
        generalize (part e ys (i * n)).run P w1 = r2
        cases r2 with
        | halt x w2 => simp [Result.andThen]
        | ok b w2 =>
          simp only [Result.andThen_ok]
          generalize (Op.equalIn D e a b).run P w2 = r3
          cases r3 with
          | halt x w3 => simp [Result.andThen]
          | ok r w3 =>
            cases r
            · simp
            · simp only [Result.andThen_ok, Bool.not_true, Bool.false_eq_true, if_false, Sem.run_pure, Sem.run_ite]
              exact ih (i + 1) w3
  refine Eq.trans ?_ (key len 0 w)
  congr 1
  funext r w'
  rcases r with ⟨_ | _, _⟩ <;> rfl
theorem run_eqElems {d D : Nat} {e : TypeId} {l : List Leaf} {n : Nat} (hl : leafsT P d e = some l) (hn : sizeT P e = some n) (hln : l.length = n) (h0 : 0 < n)
    (ih : ∀ us vs xs ys o, VRL R us xs → VRL R vs ys → eqLs3 l us vs = some o → ∃ b, Cov o b ∧ ∀ w, (Op.equalIn D e (wrapT P e xs) (wrapT P e ys)).run P w = .ok b w)
    (us vs : List V) (xs ys : List Value) (hx : VRL R us xs) (hy : VRL R vs ys) :
    ∀ (k i : Nat) (o : Option Bool), eqLs3 (repeatK l k) (us.drop (i * n)) (vs.drop (i * n)) = some o → ∃ b, Cov o b ∧ ∀ w, (eqElems D e xs.toArray ys.toArray n k i).run P w = .ok b w
  | 0, i, b, hb => by
    have := eqLs3_length hb
    simp only [repeatK] at hb this
    cases hu : us.drop (i * n) with
    | cons _ _ => simp [hu] at this
    | nil =>
      cases hv : vs.drop (i * n) with
      | cons _ _ => simp [hv] at this
      | nil =>
        rw [hu, hv] at hb
        simp only [eqLs3, Option.some.injEq] at hb; subst hb
        exact ⟨true, Cov.of _, fun w => rfl⟩
  | k + 1, i, b, hb => by
    simp only [repeatK] at hb
    obtain ⟨o1, o2, e1, e2, rfl⟩ := eqLs3_append hb
    have hlen := eqLs3_length hb
    simp only [List.length_append, List.length_drop] at hlen
    have hxl := hx.length
    have hyl := hy.length
    rw [hln] at e1 e2
    rw [List.drop_drop, List.drop_drop, show i * n + n = (i + 1) * n from by rw [Nat.add_mul, Nat.one_mul]] at e2
    obtain ⟨b1, c1, he⟩ := ih _ _ _ _ o1 ((hx.drop (i * n)).take n) ((hy.drop (i * n)).take n) e1
    obtain ⟨b2, c2, hrec⟩ := run_eqElems hl hn hln h0 ih us vs xs ys hx hy k (i + 1) o2 e2
    refine ⟨b1 && b2, c1.and c2, fun w => ?_⟩
    have p1 := run_partL hl hn hln xs (off := i * n) (by omega) w
    have p2 := run_partL hl hn hln ys (off := i * n) (by omega) w
    simp only [eqElems, Sem.run_bind, p1, p2, Result.andThen_ok, he, Sem.run_ite]
    cases b1
    · simp
    · simpa using hrec w
theorem equalIn_ok3 : ∀ (d : Nat) (t : TypeId) (ks : List Leaf), leafsT P d t = some ks → ∀ D, d ≤ D → ∀ us vs xs ys o, VRL R us xs → VRL R vs ys → eqLs3 ks us vs = some o → ∃ b, Cov o b ∧ ∀ w,
      (Op.equalIn D t (wrapT P t xs) (wrapT P t ys)).run P w = .ok b w
  | 0, t, ks, h, _, _, _, _, _, _, _, _, _, _ => by simp [leafsT] at h
  | d + 1, t, ks, h, 0, hD, _, _, _, _, _, _, _, _ => by omega
  | d + 1, t, ks, h, D + 1, hD, us, vs, xs, ys, b, hx, hy, hb => by
    have h' := h
    unfold leafsT at h
    cases hu : P.underlying t with
    | none => simp [hu] at h
    | some u =>
      rw [hu] at h
      have hlen := eqLs3_length hb
      have leafc : aggT P t = false → ks.length = 1 → ∃ a b' x y, us = [a] ∧ vs = [b'] ∧ xs = [x] ∧ ys = [y] ∧ VR R a x ∧ VR R b' y ∧ wrapT P t xs = x ∧ wrapT P t ys = y := by
        intro ha h1
        obtain ⟨a, x, rfl, rfl, ra⟩ := one_of_length hx (by omega)
        obtain ⟨b', y, rfl, rfl, rb⟩ := one_of_length hy (by omega)
        exact ⟨a, b', x, y, rfl, rfl, rfl, rfl, ra, rb, by simp [wrapT, ha], by simp [wrapT, ha]⟩
      cases u <;> simp only [reduceCtorEq, Option.some.injEq] at h
      case bool =>
        subst h
        obtain ⟨a, b', x, y, rfl, rfl, rfl, rfl, ra, rb, e1, e2⟩ := leafc (by simp [aggT, hu]) rfl
        rw [e1, e2]
        simp only [eqLs3] at hb
        split at hb
        · rename_i p q hp hq
          simp only [Option.some.injEq] at hq hb; subst hq; subst hb
          rcases leaf_ok hp ra rb with ⟨_, p, q, rfl, rfl, hc⟩ | ⟨hk, _⟩ | ⟨hk, _⟩
          · exact ⟨(p == q) && true, hc.and (Cov.of true), fun w => by simpa using run_equalIn_bool' w D t p q hu⟩
          · simp at hk
          · simp at hk
        · simp at hb
      case int k =>
        subst h
        obtain ⟨a, b', x, y, rfl, rfl, rfl, rfl, ra, rb, e1, e2⟩ := leafc (by simp [aggT, hu]) rfl
        rw [e1, e2]
        simp only [eqLs3] at hb
        split at hb
        · rename_i p q hp hq
          simp only [Option.some.injEq] at hq hb; subst hq; subst hb
          rcases leaf_ok hp ra rb with ⟨hk, _⟩ | ⟨_, j, p, q, rfl, rfl, hc⟩ | ⟨hk, _⟩
          · simp at hk
          · exact ⟨(p == q) && true, hc.and (Cov.of true), fun w => by simpa using run_equalIn_int w D t j k p q hu⟩
          · simp at hk
        · simp at hb
      case string =>
        subst h
        obtain ⟨a, b', x, y, rfl, rfl, rfl, rfl, ra, rb, e1, e2⟩ := leafc (by simp [aggT, hu]) rfl
        rw [e1, e2]
        simp only [eqLs3] at hb
        split at hb
        · rename_i p q hp hq
          simp only [Option.some.injEq] at hq hb; subst hq; subst hb
          rcases leaf_ok hp ra rb with ⟨hk, _⟩ | ⟨hk, _⟩ | ⟨_, p, q, rfl, rfl, hc⟩
          · simp at hk
          · simp at hk
          · exact ⟨eqStr p q && true, hc.and (Cov.of true), fun w => by rw [run_equalIn_string w D t p q hu, eqStr_toList]; simp⟩
        · simp at hb
      case array len e =>
        split at h
        · rename_i l s hl hs
          split at h
          · rename_i hln
            simp only [Option.some.injEq] at h; subst h
            have ha : aggT P t = true := by simp [aggT, hu]
            simp only [wrapT, ha, if_true]
            obtain ⟨b1, c1, hr⟩ := run_eqElems hl hs hln.1 hln.2 (fun us vs xs ys o h1 h2 h3 => equalIn_ok3 d e l hl D (by omega) us vs xs ys o h1 h2 h3) us vs xs ys hx hy len 0 b (by simpa using hb)
            exact ⟨b1, c1, fun w => by rw [run_equalIn_array hu hs]; exact hr w⟩
          · simp at h
        · simp at h
      case struct fs =>
        split at h
        · simp at h
        · rename_i hst
          have ha : aggT P t = true := by simp [aggT, hu]
          simp only [wrapT, ha, if_true]
          have hf : P.fieldsOf t = fs := by simp [Program.fieldsOf, hu]
          obtain ⟨b1, c1, hr⟩ := run_eqFields (d := d) (D := D) (fun t ks h us vs xs ys o h1 h2 h3 => equalIn_ok3 d t ks h D (by omega) us vs xs ys o h1 h2 h3) us vs xs ys hx hy fs.toList 0 ks h b (by simpa using hb)
          exact ⟨b1, c1, fun w => by rw [run_equalIn_struct w D t _ _ (by rw [hf, hu]) (by simpa using hst), hf]; exact hr w⟩
theorem equalIn_ok (d : Nat) (t : TypeId) (ks : List Leaf) (h : leafsT P d t = some ks) (D : Nat) (hD : d ≤ D) (us vs : List V) (xs ys : List Value) (b : Bool) (hx : VRL R us xs) (hy : VRL R vs ys) (hb : eqLs ks us vs = some b) (w : World) :
    (Op.equalIn D t (wrapT P t xs) (wrapT P t ys)).run P w = .ok b w := by
  unfold eqLs at hb
  rw [Option.bind_eq_some_iff] at hb
  obtain ⟨o, h1, h2⟩ := hb
  obtain ⟨b', c, hr⟩ := equalIn_ok3 d t ks h D hD us vs xs ys o hx hy h1
  rw [hr w, c b h2]
end
end Go.PE
namespace Go.PE
def EOp.isPure : EOp → Bool
  | .move _ | .pick .. | .build .. | .nilc _ | .bin .. | .eq .. | .un .. | .conv .. | .mkIface .. | .mkFn .. | .slice .. | .subs .. | .strId .. | .sliceArr .. | .fieldAddr .. | .field .. | .indexAddrArr .. | .indexAddrSl ..
  | .index .. | .extract .. | .len .. | .lenArr _ | .minmax .. => true
  | _ => false
section
variable {P : Program} {R : Ren}
def PureRun (P : Program) (R : Ren) (s : Sem Next) (v : V) : Prop := ∃ v', (∀ w, s.run P w = .ok (.value v') w) ∧ VR R v v'
theorem PureRun.of {s : Sem Value} {v : V} {v' : Value} (h : ∀ w, s.run P w = .ok v' w) (hv : VR R v v') : PureRun P R (do pure (.value (← s))) v :=
  ⟨v', fun w => by simp [h w], hv⟩
theorem wrap_fits {k : IntKind} {d : Dom} {n : Int} (h : fitsK k d = true) (h1 : d.lo ≤ n) (h2 : n ≤ d.hi) : k.wrap n = n := by
  simp only [fitsK, Bool.and_eq_true, decide_eq_true_eq] at h
  have h3 : kLo k ≤ n := by omega
  have h4 : n ≤ kHi k := by omega
  clear h h1 h2
  cases k <;> simp [kLo, kHi, IntKind.signed, IntKind.bits] at h3 h4 <;> simp [IntKind.wrap, IntKind.bits, IntKind.signed] <;> omega
theorem kLo_le (k : IntKind) : kLo k ≤ 0 := by cases k <;> decide
theorem ediv_mod {n c q : Int} (hc : 0 < c) (hq : 0 < q) : n / c % q = n % (c * q) / c := by
  have hs0 : 0 ≤ n % (c * q) := Int.emod_nonneg _ (by have := Int.mul_pos hc hq; omega)
  have hs1 : n % (c * q) < c * q := Int.emod_lt_of_pos _ (Int.mul_pos hc hq)
  have hn := Int.mul_ediv_add_emod n (c * q)
  generalize n % (c * q) = s at *
  generalize n / (c * q) = t at *
  have h1 : n = s + c * (q * t) := by rw [← hn, Int.mul_assoc]; omega
  rw [h1, Int.add_mul_ediv_left _ _ (by omega), Int.add_mul_emod_self_left, Int.emod_eq_of_lt (Int.ediv_nonneg hs0 (by omega)) (Int.ediv_lt_of_lt_mul hc (by rw [Int.mul_comm]; exact hs1))]
theorem Dom.holds.shift {g : Nat → Option Int} {d : Dom} {n : Int} (h : d.holds g n) (c : Int) : (d.shift c).holds g (n + c) where
  lo := by have := h.lo; unfold Dom.shift; split <;> (show d.lo + c ≤ n + c; omega)
  hi := by have := h.hi; unfold Dom.shift; split <;> (show n + c ≤ d.hi + c; omega)
  pos := by have := h.pos; unfold Dom.shift; split <;> first | exact h.pos | exact Nat.one_pos
  md := by
    have h1 := h.pos
    have h2 : 0 ≤ ((d.r : Int) + c) % (d.m : Int) := Int.emod_nonneg _ (by omega)
    unfold Dom.shift
    split
    · rename_i hr
      refine .inl ?_
      show (n + c) % (d.m : Int) = ((((d.r : Int) + c) % (d.m : Int)).toNat : Int)
      rw [Int.toNat_of_nonneg h2, ← h.mod hr, Int.emod_add_emod]
    · exact .inl (Int.emod_one _)
  id i hi := by
    have hid : d.id = some i := by unfold Dom.shift at hi; split at hi <;> exact hi
    obtain ⟨a, h1, h2⟩ := h.id i hid
    exact ⟨a, h1, by unfold Dom.shift; split <;> (show n + c = a + (d.off + c); omega)⟩
theorem abs_ok {op : BinOp} {k : IntKind} {d : Dom} {n c : Int} {v : V} (h : absE op k d c = some v) (hd : d.holds R.nums n) : ∃ v0, arithE op k n c = some v0 ∧ ∀ x, VR R v0 x → VR R v x := by
  have h1 := hd.lo; have h2 := hd.hi; have h3 := hd.pos
  unfold absE at h
  split at h
  · split at h
    · rename_i hf
      simp only [Option.some.injEq] at h; subst h
      have hs := hd.shift c
      refine ⟨_, rfl, fun x hx => ?_⟩
      cases hx
      rw [wrap_fits hf hs.lo hs.hi]
      exact .abs hs
    · simp at h
  · split at h
    · rename_i hf
      simp only [Option.some.injEq] at h; subst h
      have hs := hd.shift (-c)
      refine ⟨_, rfl, fun x hx => ?_⟩
      cases hx
      rw [show n - c = n + -c by omega, wrap_fits hf hs.lo hs.hi]
      exact .abs hs
    · simp at h
  · split at h
    · rename_i hc
      obtain ⟨c1, c2, c3, c4⟩ := hc
      have h4 := hd.mod c4
      simp only [Option.some.injEq] at h; subst h
      refine ⟨.int k (n.tmod c), by simp only [arithE]; rw [if_neg (by omega)], fun x hx => ?_⟩
      rw [Int.tmod_eq_emod_of_nonneg (by omega)] at hx
      rw [← h4, Int.emod_emod_of_dvd _ (Int.dvd_of_emod_eq_zero c3)]
      exact hx
    · split at h
      · rename_i hc
        obtain ⟨c1, c2, c3, c4⟩ := hc
        simp only [Option.some.injEq] at h; subst h
        refine ⟨.int k (n.tmod c), by simp only [arithE]; rw [if_neg (by omega)], fun x hx => ?_⟩
        rw [Int.tmod_eq_emod_of_nonneg (by omega)] at hx
        have h5 := Int.emod_nonneg n (show c ≠ 0 by omega)
        have h6 := Int.emod_lt_of_pos n c2
        have h7 : n % c ≠ 0 := by
          rcases hd.md with h | h
          · rw [c3] at h; omega
          · rw [c3] at h; exact h.2
        cases hx
        exact .abs ⟨show (1 : Int) ≤ n % c by omega, show n % c ≤ c - 1 by omega, Nat.one_pos, .inl (Int.emod_one _), fun i hi => by simp at hi⟩
      · simp at h
  · split at h
    · rename_i hc
      obtain ⟨c1, c2, c3, c4, c5⟩ := hc
      have h4 := hd.mod c5
      simp only [Option.some.injEq] at h; subst h
      refine ⟨.int k (k.wrap (n.tdiv c)), by simp only [arithE]; rw [if_neg (by omega)], fun x hx => ?_⟩
      cases hx
      rw [Int.tdiv_eq_ediv_of_nonneg (by omega)]
      have hcn : ((c.toNat : Nat) : Int) = c := Int.toNat_of_nonneg (by omega)
      obtain ⟨q, hq⟩ := Int.dvd_of_emod_eq_zero c3
      have hc0 : c ≠ 0 := by omega
      have hqp : 0 < q := by
        rcases Int.lt_trichotomy q 0 with h5 | h5 | h5
        · have := Int.mul_neg_of_pos_of_neg c2 h5; omega
        · subst h5; omega
        · exact h5
      have hn0 : 0 ≤ n / c := Int.ediv_nonneg (by omega) (by omega)
      have hnn : n / c ≤ n := Int.ediv_le_self _ (by omega)
      have hw : k.wrap (n / c) = n / c := by
        refine wrap_fits (d := ⟨none, 0, 0, d.hi, 1, 0⟩) ?_ hn0 (Int.le_trans hnn h2)
        simp only [fitsK, Bool.and_eq_true, decide_eq_true_eq] at c4 ⊢
        exact ⟨kLo_le k, c4.2⟩
      rw [hw]
      refine .abs ⟨?_, ?_, ?_, ?_, fun i hi => by simp at hi⟩
      · exact Int.ediv_le_ediv c2 h1
      · exact Int.ediv_le_ediv c2 h2
      · have : ((d.m / c.toNat : Nat) : Int) = q := by rw [Int.natCast_ediv, hcn, hq, Int.mul_ediv_cancel_left _ hc0]
        show 0 < d.m / c.toNat
        omega
      · refine .inl ?_
        show n / c % ((d.m / c.toNat : Nat) : Int) = ((d.r / c.toNat : Nat) : Int)
        rw [Int.natCast_ediv, Int.natCast_ediv, hcn, ← h4, hq, Int.mul_ediv_cancel_left _ hc0]
        exact ediv_mod c2 hqp
    · simp at h
  all_goals first
    | (split at h
       · rename_i hc
         simp only [Option.some.injEq] at h; subst h
         exact ⟨_, rfl, fun x hx => by
           cases hx
           first
             | (rw [decide_eq_true (by omega)]; constructor)
             | (rw [decide_eq_false (by omega)]; constructor)⟩
       · split at h
         · rename_i hc
           simp only [Option.some.injEq] at h; subst h
           exact ⟨_, rfl, fun x hx => by
             cases hx
             first
               | (rw [decide_eq_true (by omega)]; constructor)
               | (rw [decide_eq_false (by omega)]; constructor)⟩
         · simp at h)
    | simp at h
theorem abs2_ok {op : BinOp} {k : IntKind} {d d' : Dom} {n c : Int} {v : V} (h : abs2E op d d' = some v) (hd : d.holds R.nums n) (hd' : d'.holds R.nums c) : ∃ v0, arithE op k n c = some v0 ∧ ∀ x, VR R v0 x → VR R v x := by
  unfold abs2E at h
  split at h
  · rename_i hi
    simp only [Bool.and_eq_true, beq_iff_eq] at hi
    obtain ⟨i, hi1⟩ := Option.isSome_iff_exists.1 hi.1
    obtain ⟨a1, q1, q2⟩ := hd.id i hi1
    obtain ⟨a2, q3, q4⟩ := hd'.id i (by rw [← hi.2]; exact hi1)
    rw [q1] at q3
    simp only [Option.some.injEq] at q3
    subst q3
    split at h
    · simp only [Option.some.injEq] at h; subst h
      refine ⟨.bool (decide (n < c)), rfl, fun x hx => ?_⟩
      rw [show decide (d.off < d'.off) = decide (n < c) from decide_eq_decide.2 (by omega)]; exact hx
    · simp only [Option.some.injEq] at h; subst h
      refine ⟨.bool (decide (n ≤ c)), rfl, fun x hx => ?_⟩
      rw [show decide (d.off ≤ d'.off) = decide (n ≤ c) from decide_eq_decide.2 (by omega)]; exact hx
    · simp only [Option.some.injEq] at h; subst h
      refine ⟨.bool (decide (n > c)), rfl, fun x hx => ?_⟩
      rw [show decide (d.off > d'.off) = decide (n > c) from decide_eq_decide.2 (by omega)]; exact hx
    · simp only [Option.some.injEq] at h; subst h
      refine ⟨.bool (decide (n ≥ c)), rfl, fun x hx => ?_⟩
      rw [show decide (d.off ≥ d'.off) = decide (n ≥ c) from decide_eq_decide.2 (by omega)]; exact hx
    · simp at h
  · simp at h
theorem absR_ok {op : BinOp} {k : IntKind} {d : Dom} {n c : Int} {v : V} (h : absE' op k c d = some v) (hd : d.holds R.nums n) : ∃ v0, arithE op k c n = some v0 ∧ ∀ x, VR R v0 x → VR R v x := by
  unfold absE' at h
  split at h
  · obtain ⟨v0, h1, h2⟩ := abs_ok h hd
    refine ⟨_, rfl, fun x hx => h2 x ?_⟩
    simp only [arithE, Option.some.injEq] at h1
    rw [← h1, Int.add_comm]; exact hx
  all_goals first
    | (obtain ⟨v0, h1, h2⟩ := abs_ok h hd
       refine ⟨_, rfl, fun x hx => h2 x ?_⟩
       simp only [arithE, Option.some.injEq] at h1
       rw [← h1]; exact hx)
    | simp at h
theorem bin_ok {op : BinOp} {t : TypeId} {x y : V} {x' y' : Value} {a b : Operand} {v : V} (hx : VR R x x') (hy : VR R y y') (hop : op ≠ .eql ∧ op ≠ .neq)
    (h : binE op x y = some v) : ∃ v', (∀ w, (do eqGuard op t a b x' y'; binOp op t x' y' : Sem Value).run P w = .ok v' w) ∧ VR R v v' := by
  have hg : ∀ w, (eqGuard op t a b x' y').run P w = .ok () w := by
    intro w
    cases op <;> first | rfl | (exfalso; simp at hop)
  unfold binE at h
  split at h
  · rename_i k p k' q
    cases hx; cases hy
    split at h
    · rename_i hs
      obtain ⟨v', h1, h2⟩ := shift_ok (P := P) (R := R) (k' := k') h
      refine ⟨v', fun w => ?_, h2⟩
      simp only [Sem.run_bind, hg, Result.andThen_ok]
      rcases hs with rfl | rfl <;> exact h1 w
    · rename_i hs
      split at h
      · rename_i hk
        subst hk
        obtain ⟨v', h1, h2⟩ := arith_ok (P := P) (R := R) h
        refine ⟨v', fun w => ?_, h2⟩
        simp only [Sem.run_bind, hg, Result.andThen_ok]
        have := h1 w
        cases op <;> first | (exfalso; simp at hs; done) | (simpa [binOp] using this)
      · simp at h
  · cases hx; cases hy
    obtain ⟨v', h1, h2⟩ := str_ok (P := P) (R := R) h
    refine ⟨v', fun w => ?_, h2⟩
    simp only [Sem.run_bind, hg, Result.andThen_ok]
    have := h1 w
    cases op <;> first | (exfalso; simp at hop; done) | (simpa [binOp] using this)
  · have main : ∀ {k : IntKind} {n c : Int} {v0 : V}, ¬(op = .shl ∨ op = .shr) → arithE op k n c = some v0 → (∀ x, VR R v0 x → VR R v x) → x' = .int k n → y' = .int k c →
        ∃ v', (∀ w, (do eqGuard op t a b x' y'; binOp op t x' y' : Sem Value).run P w = .ok v' w) ∧ VR R v v' := by
      rintro k n c v0 hs h0 hvv rfl rfl
      obtain ⟨v', h1, h2⟩ := arith_ok (P := P) (R := R) h0
      refine ⟨v', fun w => ?_, hvv _ h2⟩
      simp only [Sem.run_bind, hg, Result.andThen_ok]
      have := h1 w
      cases op <;> first | (exfalso; simp at hs; done) | (simpa [binOp] using this)
    split at h
    · simp at h
    · rename_i hs
      split at h
      · rename_i hk
        subst hk
        cases hx with
        | abs hd =>
          cases hy
          obtain ⟨v0, h0, hvv⟩ := abs_ok h hd
          exact main hs h0 hvv rfl rfl
      · simp at h
  · have main : ∀ {k : IntKind} {n c : Int} {v0 : V}, ¬(op = .shl ∨ op = .shr) → arithE op k n c = some v0 → (∀ x, VR R v0 x → VR R v x) → x' = .int k n → y' = .int k c →
        ∃ v', (∀ w, (do eqGuard op t a b x' y'; binOp op t x' y' : Sem Value).run P w = .ok v' w) ∧ VR R v v' := by
      rintro k n c v0 hs h0 hvv rfl rfl
      obtain ⟨v', h1, h2⟩ := arith_ok (P := P) (R := R) h0
      refine ⟨v', fun w => ?_, hvv _ h2⟩
      simp only [Sem.run_bind, hg, Result.andThen_ok]
      have := h1 w
      cases op <;> first | (exfalso; simp at hs; done) | (simpa [binOp] using this)
    split at h
    · simp at h
    · rename_i hs
      split at h
      · rename_i hk
        subst hk
        cases hy with
        | abs hd =>
          cases hx
          obtain ⟨v0, h0, hvv⟩ := absR_ok h hd
          exact main hs h0 hvv rfl rfl
      · simp at h
  · have main : ∀ {k : IntKind} {n c : Int} {v0 : V}, ¬(op = .shl ∨ op = .shr) → arithE op k n c = some v0 → (∀ x, VR R v0 x → VR R v x) → x' = .int k n → y' = .int k c →
        ∃ v', (∀ w, (do eqGuard op t a b x' y'; binOp op t x' y' : Sem Value).run P w = .ok v' w) ∧ VR R v v' := by
      rintro k n c v0 hs h0 hvv rfl rfl
      obtain ⟨v', h1, h2⟩ := arith_ok (P := P) (R := R) h0
      refine ⟨v', fun w => ?_, hvv _ h2⟩
      simp only [Sem.run_bind, hg, Result.andThen_ok]
      have := h1 w
      cases op <;> first | (exfalso; simp at hs; done) | (simpa [binOp] using this)
    split at h
    · simp at h
    · rename_i hs
      split at h
      · rename_i hk
        subst hk
        cases hx with
        | abs hd =>
          cases hy with
          | abs hd' =>
            obtain ⟨v0, h0, hvv⟩ := abs2_ok h hd hd'
            exact main hs h0 hvv rfl rfl
      · simp at h
  · rename_i a0 i l u
    split at h
    · rename_i hc
      obtain ⟨rfl, hz, hb⟩ := hc
      simp only [Option.some.injEq] at h; subst h
      cases hx
      cases hy with
      | @syms _ _ _ s q1 q2 q3 =>
        have h0 : strE .add a0 s = some (.str (catStr a0 s)) := by
          simp only [strE]
          rw [if_pos (by omega)]
        obtain ⟨v', h1, h2⟩ := str_ok (P := P) (R := R) h0
        have hn : a0.data.toList = [] := List.eq_nil_of_length_eq_zero (by simpa using hz)
        have he : catStr a0 s = s := by
          apply ByteArray.ext
          apply Array.ext'
          simp [catStr, hn]
        rw [he] at h2
        cases h2
        refine ⟨_, fun w => ?_, .syms q1 q2 q3⟩
        simp only [Sem.run_bind, hg, Result.andThen_ok]
        simpa [binOp] using h1 w
    · simp at h
  · rename_i i l u b0
    split at h
    · rename_i hc
      obtain ⟨rfl, hz, hb⟩ := hc
      simp only [Option.some.injEq] at h; subst h
      cases hy
      cases hx with
      | @syms _ _ _ s q1 q2 q3 =>
        have h0 : strE .add s b0 = some (.str (catStr s b0)) := by
          simp only [strE]
          rw [if_pos (by omega)]
        obtain ⟨v', h1, h2⟩ := str_ok (P := P) (R := R) h0
        have hn : b0.data.toList = [] := List.eq_nil_of_length_eq_zero (by simpa using hz)
        have he : catStr s b0 = s := by
          apply ByteArray.ext
          apply Array.ext'
          simp [catStr, hn]
        rw [he] at h2
        cases h2
        refine ⟨_, fun w => ?_, .syms q1 q2 q3⟩
        simp only [Sem.run_bind, hg, Result.andThen_ok]
        simpa [binOp] using h1 w
    · simp at h
  · simp at h
def NilPair (d : TypeDesc) (x y : Value) (r : Bool) : Prop :=
  (∃ e a, d = .pointer e ∧ x = .pointer a ∧ y = .pointer none ∧ r = a.isNone) ∨ (∃ e a n c n' c', d = .slice e ∧ x = .slice a n c ∧ y = .slice none n' c' ∧ r = a.isNone) ∨
  (∃ k e a, d = .map k e ∧ x = .map a ∧ y = .map none ∧ r = a.isNone) ∨ (∃ p q s, d = .func p q s ∧ y = .nilFunc ∧ ((x = .nilFunc ∧ r = true) ∨ ∃ f a c, x = .func f a c ∧ r = false))
theorem nil_ok {d : TypeDesc} {k : NK} (hd : nkOf d = some k) {y : Operand} (hy : isNilConst k y = true) {x : V} {x' : Value} (hx : VR R x x') {r : Bool} (h : isNilE k x = some r) (a : Act) :
    NilPair d x' (a.eval y) r := by
  cases k
  · cases d <;> simp only [nkOf, reduceCtorEq, Option.some.injEq] at hd
    unfold isNilConst at hy
    split at hy <;> simp only [reduceCtorEq, Bool.false_eq_true] at *
    refine .inl ?_
    cases hx <;> simp only [isNilE, Option.some.injEq, reduceCtorEq] at h <;> subst h <;> exact ⟨_, _, rfl, rfl, rfl, rfl⟩
  · cases d <;> simp only [nkOf, reduceCtorEq, Option.some.injEq] at hd
    unfold isNilConst at hy
    split at hy <;> simp only [reduceCtorEq, Bool.false_eq_true] at *
    refine .inr (.inl ?_)
    cases hx <;> simp only [isNilE, Option.some.injEq, reduceCtorEq] at h <;> subst h <;> exact ⟨_, _, _, _, _, _, rfl, rfl, rfl, rfl⟩
  · cases d <;> simp only [nkOf, reduceCtorEq, Option.some.injEq] at hd
    unfold isNilConst at hy
    split at hy <;> simp only [reduceCtorEq, Bool.false_eq_true] at *
    refine .inr (.inr (.inl ?_))
    cases hx <;> simp only [isNilE, Option.some.injEq, reduceCtorEq] at h <;> subst h <;> exact ⟨_, _, _, rfl, rfl, rfl, rfl⟩
  · cases d <;> simp only [nkOf, reduceCtorEq, Option.some.injEq] at hd
    unfold isNilConst at hy
    split at hy <;> simp only [reduceCtorEq, Bool.false_eq_true] at *
    refine .inr (.inr (.inr ?_))
    cases hx <;> simp only [isNilE, Option.some.injEq, reduceCtorEq] at h <;> subst h
    · exact ⟨_, _, _, rfl, rfl, .inr ⟨_, _, _, rfl, rfl⟩⟩
    · exact ⟨_, _, _, rfl, rfl, .inl ⟨rfl, rfl⟩⟩
theorem run_equalIn_nilR {t : TypeId} {d : TypeDesc} (hd : P.underlying t = some d) {x y : Value} {r : Bool} (h : NilPair d x y r) (D : Nat) (w : World) :
    (Op.equalIn (D + 1) t x y).run P w = .ok r w := by
  rcases h with ⟨e, p, rfl, rfl, rfl, rfl⟩ | ⟨e, p, n, c, n', c', rfl, rfl, rfl, rfl⟩ | ⟨k, e, p, rfl, rfl, rfl, rfl⟩ | ⟨p, q, s, rfl, rfl, ⟨rfl, rfl⟩ | ⟨f, p, c, rfl, rfl⟩⟩
  all_goals first
    | (simp only [Op.equalIn, Sem.run_bind, run_underlying hd, Result.andThen_ok]; rfl)
    | (cases p <;> (simp only [Op.equalIn, Sem.run_bind, run_underlying hd, Result.andThen_ok]; rfl))
theorem run_equalIn_nilL {t : TypeId} {d : TypeDesc} (hd : P.underlying t = some d) {x y : Value} {r : Bool} (h : NilPair d x y r) (D : Nat) (w : World) :
    (Op.equalIn (D + 1) t y x).run P w = .ok r w := by
  rcases h with ⟨e, p, rfl, rfl, rfl, rfl⟩ | ⟨e, p, n, c, n', c', rfl, rfl, rfl, rfl⟩ | ⟨k, e, p, rfl, rfl, rfl, rfl⟩ | ⟨p, q, s, rfl, rfl, ⟨rfl, rfl⟩ | ⟨f, p, c, rfl, rfl⟩⟩
  all_goals first
    | (simp only [Op.equalIn, Sem.run_bind, run_underlying hd, Result.andThen_ok]; rfl)
    | (cases p <;> (simp only [Op.equalIn, Sem.run_bind, run_underlying hd, Result.andThen_ok]; rfl))
theorem run_eqOp {op : BinOp} (hop : op = .eql ∨ op = .neq) {t : TypeId} {x y : Value} {r : Bool} (a b : Operand) (w : World)
    (hg : (eqGuard op t a b x y).run P w = .ok () w) (hb : ∀ o, o = .eql ∨ o = .neq → binOp o t x y = (do let z ← Op.equal t x y; pure (.bool (z != isNeq o))))
    (h : (Op.equalIn 10000 t x y).run P w = .ok r w) : (do eqGuard op t a b x y; binOp op t x y : Sem Value).run P w = .ok (.bool (r != isNeq op)) w := by
  have he : (Op.equal t x y).run P w = .ok r w := h
  rw [Sem.run_bind, hg, Result.andThen_ok, hb op hop, Sem.run_bind, he]
  rfl
end
end Go.PE
namespace Go.PE
section
variable {P : Program} {R : Ren}
theorem eqlOp (op : BinOp) : (op = .eql ∨ op = .neq) ∨ (op ≠ .eql ∧ op ≠ .neq) := by
  cases op <;> simp
theorem cEq_cases {neg : Bool} {t : TypeId} {x y : Operand} {a b : Opd} {eo : EOp} (h : cEq P neg t x y a b = some eo) :
    ∃ ek, eo = .eq neg ek a b ∧ (match ek with
      | .leaf .bool => P.underlying t = some .bool
      | .leaf .int => True
      | .leaf .str => True
      | .agg ks => P.eqGuardType P.depth t = false ∧ leafsT P eqDepth t = some ks ∧ aggT P t = true
      | .nilR k => ∃ d, P.underlying t = some d ∧ nkOf d = some k ∧ isNilConst k y = true
      | .nilL k => ∃ d, P.underlying t = some d ∧ nkOf d = some k ∧ isNilConst k x = true) := by
  unfold cEq at h
  split at h
  · rename_i hu; simp only [Option.some.injEq] at h; exact ⟨_, h.symm, hu⟩
  · simp only [Option.some.injEq] at h; exact ⟨_, h.symm, trivial⟩
  · simp only [Option.some.injEq] at h; exact ⟨_, h.symm, trivial⟩
  · rename_i hu
    split at h
    · simp at h
    · rename_i hg
      rw [Option.map_eq_some_iff] at h
      obtain ⟨ks, hk, rfl⟩ := h
      exact ⟨_, rfl, by simpa using hg, hk, by simp [aggT, hu]⟩
  · rename_i hu
    split at h
    · simp at h
    · rename_i hg
      rw [Option.map_eq_some_iff] at h
      obtain ⟨ks, hk, rfl⟩ := h
      exact ⟨_, rfl, by simpa using hg, hk, by simp [aggT, hu]⟩
  · rename_i d _ _ _ _ _ hu
    split at h
    · rename_i k hk
      split at h
      · rename_i hn
        simp only [Option.some.injEq] at h
        exact ⟨_, h.symm, d, hu, hk, hn⟩
      · split at h
        · rename_i hn
          simp only [Option.some.injEq] at h
          exact ⟨_, h.symm, d, hu, hk, hn⟩
        · simp at h
    · simp at h
  · simp at h
theorem eq_op_ok {op : BinOp} (hop : op = .eql ∨ op = .neq) {t : TypeId} {x y : Operand} {eo : EOp} (hc : cBin P op t x y = some eo) {e : Env} {a : Act} (hE : VRL R e a.tmps.toList) {X : Ctx} {H H' : Heap} {v : V}
    (h : evalOp X e H eo = some (v, H')) : H' = H ∧ ∃ v', (∀ w, (do eqGuard op t x y (a.eval x) (a.eval y); binOp op t (a.eval x) (a.eval y) : Sem Value).run P w = .ok v' w) ∧ VR R v v' := by
  unfold cBin at hc
  split at hc
  case h_2 => simp at hc
  case h_1 =>
      rename_i x1 y1 hx hy
      rw [if_pos hop] at hc
      have rx := opd_ok hx hE
      have ry := opd_ok hy hE
      have main := cEq_cases hc
      obtain ⟨ek, rfl, hek⟩ := main
      simp only [evalOp, pure1, Option.map_eq_some_iff, Prod.mk.injEq] at h
      obtain ⟨b, ⟨r, hr, rfl⟩, rfl, rfl⟩ := h
      refine ⟨rfl, .bool (r != isNeq op), fun w => ?_, .bool _⟩
      cases ek with
      | leaf k =>
        simp only [eqE] at hr
        unfold eqLeaf at hr
        rw [Option.bind_eq_some_iff] at hr
        obtain ⟨o, ho, hr⟩ := hr
        rcases leaf_ok ho rx ry with ⟨rfl, p, q, e1, e2, hcv⟩ | ⟨rfl, j, p, q, e1, e2, hcv⟩ | ⟨rfl, p, q, e1, e2, hcv⟩
        all_goals (have hcv := hcv r hr; subst hcv)
        · rw [e1, e2]
          refine run_eqOp hop x y w ?_ ?_ (run_equalIn_bool' w 9999 t p q hek)
          · rcases hop with rfl | rfl <;> rfl
          · rintro o (rfl | rfl)
            · show (do pure (.bool (← Op.equal t (.bool p) (.bool q))) : Sem Value) = _
              simp [isNeq]
            · show (do pure (.bool (!(← Op.equal t (.bool p) (.bool q)))) : Sem Value) = _
              simp [isNeq]
        · rw [e1, e2]
          rcases hop with rfl | rfl
          · simp [eqGuard, binOp, Op.intCmp, isNeq]
          · simp [eqGuard, binOp, Op.intCmp, isNeq, bne]
        · rw [e1, e2, eqStr_toList]
          rcases hop with rfl | rfl
          · simp [eqGuard, binOp, Op.stringOp, isNeq]
          · simp [eqGuard, binOp, Op.stringOp, isNeq]
      | agg ks =>
        obtain ⟨hg, hl, ha⟩ := hek
        simp only [eqE] at hr
        split at hr
        · rename_i l l' el el'
          rw [el] at rx; rw [el'] at ry
          cases hxx : a.eval x <;> rw [hxx] at rx <;> cases rx
          rename_i xs hxs
          cases hyy : a.eval y <;> rw [hyy] at ry <;> cases ry
          rename_i ys hys
          refine run_eqOp hop x y w (run_eqGuard_agg w op t x y xs ys hg) ?_ ?_
          · rintro o (rfl | rfl)
            · show (do pure (.bool (← Op.equal t (.agg xs) (.agg ys))) : Sem Value) = _
              simp [isNeq]
            · show (do pure (.bool (!(← Op.equal t (.agg xs) (.agg ys)))) : Sem Value) = _
              simp [isNeq]
          · have := equalIn_ok 12 t ks hl 10000 (by omega) l l' xs.toList ys.toList r hxs hys hr w
            simpa [wrapT, ha] using this
        · simp at hr
      | nilR k =>
        obtain ⟨d, hd, hk, hn⟩ := hek
        simp only [eqE] at hr
        have hp := nil_ok hk hn rx hr a
        refine run_eqOp hop x y w ?_ ?_ (run_equalIn_nilR hd hp 9999 w)
        · rcases hp with ⟨e, p, h1, h2, h3, _⟩ | ⟨e, p, n, c, n', c', h1, h2, h3, _⟩ | ⟨k, e, p, h1, h2, h3, _⟩ | ⟨p, q, s, h1, h3, ⟨h2, _⟩ | ⟨f, p, c, h2, _⟩⟩ <;> rw [h2, h3] <;> rcases hop with rfl | rfl <;> rfl
        · rintro o ho
          rcases hp with ⟨e, p, h1, h2, h3, _⟩ | ⟨e, p, n, c, n', c', h1, h2, h3, _⟩ | ⟨k, e, p, h1, h2, h3, _⟩ | ⟨p, q, s, h1, h3, ⟨h2, _⟩ | ⟨f, p, c, h2, _⟩⟩ <;> rw [h2, h3] <;> rcases ho with rfl | rfl <;> simp [binOp, isNeq]
      | nilL k =>
        obtain ⟨d, hd, hk, hn⟩ := hek
        simp only [eqE] at hr
        have hp := nil_ok hk hn ry hr a
        refine run_eqOp hop x y w ?_ ?_ (run_equalIn_nilL hd hp 9999 w)
        · rcases hp with ⟨e, p, h1, h2, h3, _⟩ | ⟨e, p, n, c, n', c', h1, h2, h3, _⟩ | ⟨k, e, p, h1, h2, h3, _⟩ | ⟨p, q, s, h1, h3, ⟨h2, _⟩ | ⟨f, p, c, h2, _⟩⟩ <;> rw [h2, h3] <;> rcases hop with rfl | rfl <;> rfl
        · rintro o ho
          rcases hp with ⟨e, p, h1, h2, h3, _⟩ | ⟨e, p, n, c, n', c', h1, h2, h3, _⟩ | ⟨k, e, p, h1, h2, h3, _⟩ | ⟨p, q, s, h1, h3, ⟨h2, _⟩ | ⟨f, p, c, h2, _⟩⟩ <;> rw [h2, h3] <;> rcases ho with rfl | rfl <;> simp [binOp, isNeq]
theorem boundE_ok {y d n : Nat} {x : Option V} {x' : Option Value} (hx : match x, x' with | none, none => True | some a, some b => VR R a b | _, _ => False) (h : boundE y x d = some n) (code : BoundsCode) :
    (x = none ∧ x' = none ∧ n = d) ∨ (∃ b, x' = some b ∧ n ≤ y ∧ ∀ w, (Instr.sliceBound b y code).run P w = .ok n w) := by
  unfold boundE at h
  split at h
  · cases x' with
    | none => exact .inl ⟨rfl, rfl, by simpa using h.symm⟩
    | some b => simp at hx
  · split at h
    · rename_i i hi
      cases x' with
      | none => simp at hx
      | some b =>
        simp only at hx
        cases hx
        simp only [Option.some.injEq] at h; subst h
        refine .inr ⟨_, rfl, by omega, fun w => ?_⟩
        simp [Instr.sliceBound, asIntOf, hi]
    · simp at h
  · simp at h
theorem bounds_ok {isSlice : Bool} {len cap h l : Nat} {lo hi : Option V} {lo' hi' : Option Value} (hcap : len ≤ cap)
    (hl : match lo, lo' with | none, none => True | some a, some b => VR R a b | _, _ => False) (hh : match hi, hi' with | none, none => True | some a, some b => VR R a b | _, _ => False)
    (e1 : boundE len hi len = some h) (e2 : boundE h lo 0 = some l) : l ≤ h ∧ h ≤ len ∧ ∀ w, (Instr.sliceBounds isSlice len cap lo' hi' none).run P w = .ok (l, h, cap) w := by
  have h1 : h ≤ len ∧ ∀ w, (match hi', (none : Option Value) with
      | some v, some _ => Instr.sliceBound v cap .slice3B
      | some v, none => Instr.sliceBound v cap (if isSlice then .sliceAcap else .sliceAlen)
      | none, none => pure len
      | none, some _ => stuck "Slice: max without high" : Sem Nat).run P w = .ok h w := by
    unfold boundE at e1
    split at e1
    · cases hi' with
      | none => simp only [Option.some.injEq] at e1; subst e1; exact ⟨Nat.le_refl _, fun w => rfl⟩
      | some b => simp at hh
    · split at e1
      · rename_i i hi
        cases hi' with
        | none => simp at hh
        | some b =>
          simp only at hh
          cases hh
          simp only [Option.some.injEq] at e1; subst e1
          refine ⟨by omega, fun w => ?_⟩
          have : 0 ≤ i ∧ i ≤ (cap : Int) := ⟨hi.1, by omega⟩
          simp [Instr.sliceBound, asIntOf, this]
      · simp at e1
    · simp at e1
  have h2 : l ≤ h ∧ ∀ w, (match lo' with
      | some v => Instr.sliceBound v h (if (none : Option Value).isSome then .slice3C else .sliceB)
      | none => pure 0 : Sem Nat).run P w = .ok l w := by
    unfold boundE at e2
    split at e2
    · cases lo' with
      | none => simp only [Option.some.injEq] at e2; subst e2; exact ⟨Nat.zero_le _, fun w => rfl⟩
      | some b => simp at hl
    · split at e2
      · rename_i i hi
        cases lo' with
        | none => simp at hl
        | some b =>
          simp only at hl
          cases hl
          simp only [Option.some.injEq] at e2; subst e2
          refine ⟨by omega, fun w => ?_⟩
          simp [Instr.sliceBound, asIntOf, hi]
      · simp at e2
    · simp at e2
  refine ⟨h2.1, h1.1, fun w => ?_⟩
  have a1 := h1.2 w
  have a2 := h2.2 w
  unfold Instr.sliceBounds
  clear h1 h2 hl hh e1 e2
  cases hi' <;> cases lo' <;> simp only [Sem.run_bind, Sem.run_pure, Result.andThen_ok, Result.ok.injEq, and_true] at a1 a2 ⊢
  · subst a1; subst a2; rfl
  · subst a1; rw [a2]; rfl
  · subst a2; rw [a1]; rfl
  · rw [a1, Result.andThen_ok, a2]; rfl
end
end Go.PE
namespace Go.PE
section
variable {P : Program} {R : Ren}
theorem pure1_ok {H H' : Heap} {x : Option V} {v : V} (h : pure1 H x = some (v, H')) : x = some v ∧ H' = H := by
  simp only [pure1, Option.map_eq_some_iff, Prod.mk.injEq] at h
  obtain ⟨y, rfl, rfl, rfl⟩ := h
  exact ⟨rfl, rfl⟩
theorem cParts_ok {place : Nat → Option (Nat × Nat)} : ∀ {l : List (Nat × Operand)} {ps : List (Nat × Nat × Opd)}, cParts place l = some ps → ∀ {e : Env} {a : Act}, VRL R e a.tmps.toList →
    ∀ {cs cs' : List V} {xs : Array Value}, VRL R cs xs.toList → fillE cs (ps.map fun p => (p.1, p.2.1, p.2.2.ev e)) = some cs' →
    ∃ ys : Array Value, Instr.fill place xs (l.map fun p => (p.1, a.eval p.2)) = some ys ∧ VRL R cs' ys.toList
  | [], ps, h, e, a, _, cs, cs', xs, hx, hf => by
    simp only [cParts, Option.some.injEq] at h; subst h
    simp only [List.map_nil, fillE, Option.some.injEq] at hf; subst hf
    exact ⟨xs, rfl, hx⟩
  | (i, x) :: l, ps, h, e, a, hE, cs, cs', xs, hx, hf => by
    unfold cParts at h
    split at h
    · rename_i off n y qs hpl hy hq
      simp only [Option.some.injEq] at h; subst h
      simp only [List.map_cons, fillE] at hf
      split at hf
      · rename_i hc
        have rv := opd_ok hy hE
        have rc := rv.cells
        have hlen := rc.length
        have hxl := hx.length
        simp only [Array.length_toList] at hlen hxl
        have hset : ∀ (vs : List Value) (k : Nat) (zs : Array Value), off + k + vs.length ≤ zs.size → ((vs.zipIdx k).foldl (fun cs (c, j) => cs.setIfInBounds (off + j) c) zs).toList =
            zs.toList.take (off + k) ++ vs ++ zs.toList.drop (off + k + vs.length) := by
          intro vs
          induction vs with
          | nil => intro k zs _; simp
          | cons v vs ih =>
            intro k zs hz
            simp only [List.zipIdx_cons, List.foldl_cons]
            simp only [List.length_cons] at hz
            rw [ih (k + 1) _ (by simp; omega)]
            have := list_seg_step zs.toList (off + k) v vs (by simp; omega)
            simpa [Nat.add_assoc] using this
        obtain ⟨ys, h1, h2⟩ := cParts_ok hq hE (cs := splice cs off (y.ev e).cells) (cs' := cs')
          (xs := ((a.eval x).cells.zipIdx.foldl (fun cs (c, j) => cs.setIfInBounds (off + j) c) xs)) (by
            have := hset (a.eval x).cells.toList 0 xs (by simp; omega)
            rw [← Array.foldl_toList, Array.toList_zipIdx, this]
            exact hx.splice rc off) hf
        refine ⟨ys, ?_, h2⟩
        simp only [List.map_cons, Instr.fill, hpl]
        rw [if_neg (by simp; omega)]
        exact h1
      · simp at hf
    · simp at h
theorem optB_ok {y : Option Operand} {z : Option Opd} (h : (match y with | none => some none | some y => (cOpd y).map some : Option (Option Opd)) = some z) {e : Env} {a : Act} (hE : VRL R e a.tmps.toList) :
    match z.map (Opd.ev e), y.map a.eval with | none, none => True | some p, some q => VR R p q | _, _ => False := by
  cases y with
  | none => simp only [Option.some.injEq] at h; subst h; trivial
  | some y =>
    simp only [Option.map_eq_some_iff] at h
    obtain ⟨w, hw, rfl⟩ := h
    exact opd_ok hw hE
theorem mv_ok {x : Operand} {y : Opd} (hy : cOpd x = some y) {e : Env} {a : Act} (hE : VRL R e a.tmps.toList) {X : Ctx} {H H' : Heap} {v : V} (h : evalOp X e H (.move y) = some (v, H')) :
    H' = H ∧ VR R v (a.eval x) := by
  simp only [evalOp, Option.some.injEq, Prod.mk.injEq] at h
  obtain ⟨rfl, rfl⟩ := h
  exact ⟨rfl, opd_ok hy hE⟩
theorem build_ok {t : TypeId} {parts : Array (Nat × Operand)} {z : List V} {ps : List (Nat × Nat × Opd)} (hz : zeroT P t = some z)
    (hp : (∃ fs, P.underlying t = some (.struct fs) ∧ (fs.toList.all fun f => (sizeT P f.type).isSome) = true ∧ cParts (fun i => (fs[i]?).bind fun f => (sizeT P f.type).map fun n => (f.offset, n)) parts.toList = some ps) ∨
      (∃ len el n, P.underlying t = some (.array len el) ∧ sizeT P el = some n ∧ cParts (fun i => some (i * n, n)) parts.toList = some ps))
    {e : Env} {a : Act} (hE : VRL R e a.tmps.toList) {X : Ctx} {H H' : Heap} {v : V} (h : evalOp X e H (.build z ps) = some (v, H')) :
    H' = H ∧ ∃ v', (∀ w, (Instr.build t (parts.map fun (i, x) => (i, a.eval x))).run P w = .ok v' w) ∧ VR R v v' := by
  simp only [evalOp] at h
  obtain ⟨h1, rfl⟩ := pure1_ok h
  rw [Option.map_eq_some_iff] at h1
  obtain ⟨cs, hf, rfl⟩ := h1
  obtain ⟨i, zv, hi, hzv, hrz⟩ := zeroT_ok hz
  refine ⟨rfl, ?_⟩
  rcases hp with ⟨fs, hu, hall, hc⟩ | ⟨len, el, n, hu, hs, hc⟩
  · have hallF : ∀ (l : List Field), (∀ f ∈ l, ∃ n, sizeT P f.type = some n) → ∀ w, (l.mapM (fun f => do pure (f.offset, ← sizeOf f.type) : Field → Sem (Nat × Nat))).run P w =
        .ok (l.map fun f => (f.offset, (sizeT P f.type).getD 0)) w := by
      intro l
      induction l with
      | nil => intro _ w; rfl
      | cons f l ih =>
        intro hl w
        obtain ⟨n, hn⟩ := hl f (by simp)
        simp only [List.mapM_cons, Sem.run_bind, run_sizeT hn, Result.andThen_ok, Sem.run_pure, ih (fun g hg => hl g (by simp [hg])), List.map_cons, hn, Option.getD_some]
    have hall' : ∀ f ∈ fs.toList, ∃ n, sizeT P f.type = some n := by
      intro f hf
      have := List.all_eq_true.1 hall f hf
      exact Option.isSome_iff_exists.1 this
    have hplace : (fun (i : Nat) => (fs[i]?).bind fun (f : Field) => (sizeT P f.type).map fun n => (f.offset, n)) = fun i => ((fs.toList.map fun (f : Field) => (f.offset, (sizeT P f.type).getD 0)).toArray)[i]? := by
      funext i
      simp only [List.getElem?_toArray, List.getElem?_map, Array.getElem?_toList]
      cases hfi : fs[i]? with
      | none => rfl
      | some f =>
        have hm : f ∈ fs.toList := by
          rw [Array.mem_toList_iff]
          exact Array.mem_of_getElem? hfi
        obtain ⟨n, hn⟩ := hall' f hm
        simp [hn]
    rw [hplace] at hc
    obtain ⟨ys, h1, h2⟩ := cParts_ok hc hE hrz hf
    refine ⟨.agg ys, fun w => ?_, .agg h2⟩
    have hm : (fs.mapM (fun f => do pure (f.offset, ← sizeOf f.type) : Field → Sem (Nat × Nat))).run P w = .ok ((fs.toList.map fun f => (f.offset, (sizeT P f.type).getD 0)).toArray) w := by
      rw [Array.mapM_eq_mapM_toList, Sem.run_map, hallF _ hall']
      rfl
    simp only [Instr.build, Sem.run_bind, run_zero hi hzv, Result.andThen_ok, run_underlying hu]
    rw [hm, Result.andThen_ok]
    have : (parts.map fun (x : Nat × Operand) => (x.1, a.eval x.2)).toList = parts.toList.map fun p => (p.1, a.eval p.2) := by simp
    rw [this, h1]
    rfl
  · obtain ⟨ys, h1, h2⟩ := cParts_ok hc hE hrz hf
    refine ⟨.agg ys, fun w => ?_, .agg h2⟩
    simp only [Instr.build, Sem.run_bind, run_zero hi hzv, Result.andThen_ok, run_underlying hu, run_sizeT hs]
    have : (parts.map fun (x : Nat × Operand) => (x.1, a.eval x.2)).toList = parts.toList.map fun p => (p.1, a.eval p.2) := by simp
    rw [this, h1]
    rfl
theorem subs_ok {x : V} {x' : Value} (hx : VR R x x') {lo hi : Option V} {lo' hi' : Option Value} {v : V}
    (hl : match lo, lo' with | none, none => True | some a, some b => VR R a b | _, _ => False) (hh : match hi, hi' with | none, none => True | some a, some b => VR R a b | _, _ => False)
    (h : subsE x lo hi = some v) {t : TypeId} (ht : P.underlying t = some .string) :
    ∃ v', (∀ w, (Instr.sliceAt t x' lo' hi' none).run P w = .ok v' w) ∧ VR R v v' := by
  cases hx <;> simp only [subsE, reduceCtorEq] at h
  · rename_i s
    simp only [Option.bind_eq_bind, Option.bind_eq_some_iff, Option.some.injEq] at h
    obtain ⟨h1, e1, l1, e2, rfl⟩ := h
    obtain ⟨g1, g2, hb⟩ := bounds_ok (P := P) (isSlice := false) (Nat.le_refl _) hl hh e1 e2
    refine ⟨.string (s.extract l1 h1), fun w => ?_, by rw [subStr_eq]; exact .str _⟩
    simp [Instr.sliceAt, Instr.slice, run_underlying ht, hb w]
  · rename_i i n m s q1 q2 q3
    split at h
    · rename_i hnm
      subst hnm
      have hsz : s.size = n := Nat.le_antisymm q3 q2
      simp only [Option.bind_eq_bind, Option.bind_eq_some_iff] at h
      obtain ⟨h1, e1, l1, e2, h⟩ := h
      have e1 : boundE s.size hi s.size = some h1 := by rw [hsz]; exact e1
      obtain ⟨g1, g2, hb⟩ := bounds_ok (P := P) (isSlice := false) (Nat.le_refl _) hl hh e1 e2
      refine ⟨.string (s.extract l1 h1), fun w => by simp [Instr.sliceAt, Instr.slice, run_underlying ht, hb w], ?_⟩
      split at h
      · rename_i hlh
        simp only [Option.some.injEq] at h; subst h
        have : s.extract l1 h1 = ⟨#[]⟩ := by
          subst hlh
          apply ByteArray.ext
          apply Array.ext'
          simp
        rw [this]; exact .str _
      · split at h
        · rename_i hc
          simp only [Option.some.injEq] at h; subst h
          have : s.extract l1 h1 = s := by
            rw [hc.1, hc.2, ← hsz]
            apply ByteArray.ext
            apply Array.ext'
            simp
          rw [this]; exact .syms q1 q2 q3
        · simp at h
    · simp at h
theorem slice_ok {es : Nat} {x : V} {x' : Value} (hx : VR R x x') {lo hi : Option V} {lo' hi' : Option Value} {v : V}
    (hl : match lo, lo' with | none, none => True | some a, some b => VR R a b | _, _ => False) (hh : match hi, hi' with | none, none => True | some a, some b => VR R a b | _, _ => False)
    (h : sliceE es x lo hi = some v) {t el : TypeId} (ht : P.underlying t = some (.slice el)) (hs : sizeT P el = some es) :
    ∃ v', (∀ w, (Instr.sliceAt t x' lo' hi' none).run P w = .ok v' w) ∧ VR R v v' := by
  · have key : ∀ (a : Option Addr) (len cap h1 l1 : Nat), x' = .slice a len cap → len ≤ cap → boundE len hi len = some h1 → boundE h1 lo 0 = some l1 →
        l1 ≤ h1 ∧ h1 ≤ len ∧ ∀ w, (Instr.sliceAt t x' lo' hi' none).run P w = .ok (.slice (if cap = l1 then a else a.map (·.add (l1 * es))) (h1 - l1) (cap - l1)) w := by
      intro a len cap h1 l1 hx' hc e1 e2
      obtain ⟨g1, g2, hb⟩ := bounds_ok (P := P) (isSlice := true) hc hl hh e1 e2
      refine ⟨g1, g2, fun w => ?_⟩
      subst hx'
      simp [Instr.sliceAt, Instr.slice, run_underlying ht, hb w, run_sizeT hs]
    cases hx <;> simp only [sliceE, Option.bind_eq_bind, Option.bind_eq_some_iff, Option.some.injEq, reduceCtorEq] at h
    · rename_i b v0 off len es' c cap L a1 a2 a3 a4 a5 a6
      obtain ⟨h1, e1, l1, e2, h⟩ := h
      split at h
      · rename_i hes
        subst hes
        simp only [Option.some.injEq] at h; subst h
        obtain ⟨g1, g2, hr⟩ := key _ _ _ h1 l1 rfl a4 e1 e2
        refine ⟨_, hr, ?_⟩
        have hmul : l1 * es + (h1 - l1) * es ≤ len * es := by
          rw [← Nat.add_mul]; exact Nat.mul_le_mul_right _ (by omega)
        by_cases hz : c = l1
        · rw [if_pos hz]
          have : h1 - l1 = 0 := by omega
          rw [this]
          have hz2 : c - l1 = 0 := by omega
          rw [hz2]
          refine .slice0 a1 (by omega) (by omega) ?_
          intro k hk
          rw [Option.map_eq_some_iff] at hk
          obtain ⟨k', hk', rfl⟩ := hk
          have := a5 k' hk'; omega
        · rw [if_neg hz]
          simp only [Option.map_some, addr_add]
          have ho : off + L.sh - L.lo + l1 * es = off + l1 * es + L.sh - L.lo := by omega
          rw [ho]
          refine .slice a1 (by omega) (by omega) (by omega) ?_ ?_
          · intro k hk
            rw [Option.map_eq_some_iff] at hk
            obtain ⟨k', hk', rfl⟩ := hk
            have := a5 k' hk'; omega
          · intro hcn
            have hcap : cap = none := by simpa using hcn
            have := a6 hcap
            have hmm : l1 * es + (c - l1) * es = c * es := by
              rw [← Nat.add_mul]; congr 1; omega
            omega
      · simp at h
    · rename_i b v0 off es' r o cap L a1 a2 a3 a4
      obtain ⟨h1, e1, l1, e2, h⟩ := h
      split at h
      · rename_i hes
        subst hes
        simp only [Option.some.injEq] at h; subst h
        obtain ⟨g1, g2, hr⟩ := key _ _ _ h1 l1 rfl (Nat.le_refl _) e1 e2
        refine ⟨_, hr, ?_⟩
        have e0 : l1 = 0 := by omega
        subst e0
        have e0 : h1 = 0 := by omega
        subst e0
        simp only [if_true, Nat.zero_mul, Nat.add_zero, Nat.sub_self]
        refine .slice0 a1 a2 a3 ?_
        intro k hk
        rw [Option.map_eq_some_iff] at hk
        obtain ⟨k', hk', rfl⟩ := hk
        have := a4 k' hk'; omega
      · simp at h
    · obtain ⟨h1, e1, l1, e2, rfl⟩ := h
      obtain ⟨g1, g2, hr⟩ := key _ _ _ h1 l1 rfl (Nat.le_refl _) e1 e2
      refine ⟨_, hr, ?_⟩
      have e0 : l1 = 0 := by omega
      subst e0
      have e0 : h1 = 0 := by omega
      subst e0
      exact .nils
    · obtain ⟨h1, e1, l1, e2, rfl⟩ := h
      obtain ⟨g1, g2, hr⟩ := key _ _ _ h1 l1 rfl (Nat.le_refl _) e1 e2
      refine ⟨_, hr, ?_⟩
      have e0 : l1 = 0 := by omega
      subst e0
      have e0 : h1 = 0 := by omega
      subst e0
      exact .emp0
    · rename_i n r o c l a1 a2
      obtain ⟨h1, e1, l1, e2, rfl⟩ := h
      obtain ⟨g1, g2, hr⟩ := key _ _ _ h1 l1 rfl a2 e1 e2
      refine ⟨_, hr, ?_⟩
      by_cases hz : c = l1
      · rw [if_pos hz]
        have : h1 - l1 = 0 := by omega
        rw [this]
        refine .psl ?_ (by omega)
        intro j x hj
        simp at hj
      · rw [if_neg hz]
        simp only [Option.map_some, addr_add]
        refine .psl ?_ (by omega)
        intro j x hj
        have hjl : j < (h1 - l1) * es := by
          have := (List.getElem?_eq_some_iff.1 hj).1
          simp at this; omega
        rw [List.getElem?_take, if_pos hjl, List.getElem?_drop] at hj
        have := a1 _ _ hj
        rw [Nat.add_assoc]; exact this
theorem sliceArr_ok {len es : Nat} {x : V} {x' : Value} (hx : VR R x x') {lo hi : Option V} {lo' hi' : Option Value} {v : V}
    (hl : match lo, lo' with | none, none => True | some a, some b => VR R a b | _, _ => False) (hh : match hi, hi' with | none, none => True | some a, some b => VR R a b | _, _ => False)
    (h : sliceArrE len es x lo hi = some v) {t : TypeId} (ht : (∃ el, P.underlying t = some (.array len el) ∧ sizeT P el = some es) ∨ ∃ a el, P.underlying t = some (.pointer a) ∧ P.underlying a = some (.array len el) ∧ sizeT P el = some es) :
    ∃ v', (∀ w, (Instr.sliceAt t x' lo' hi' none).run P w = .ok v' w) ∧ VR R v v' := by
  cases hx <;> simp only [sliceArrE, reduceCtorEq] at h
  rename_i b v0 off ext L a1 a2 a3
  simp only [Option.bind_eq_bind, Option.bind_eq_some_iff] at h
  obtain ⟨h1, e1, l1, e2, h⟩ := h
  split at h
  · rename_i hle
    simp only [Option.some.injEq] at h; subst h
    obtain ⟨g1, g2, hb⟩ := bounds_ok (P := P) (isSlice := false) (Nat.le_refl len) hl hh e1 e2
    have hmul : l1 * es + (h1 - l1) * es ≤ len * es := by
      rw [← Nat.add_mul]; exact Nat.mul_le_mul_right _ (by omega)
    refine ⟨.slice (some (if len = l1 then ⟨L.r, off + L.sh - L.lo, none⟩ else (⟨L.r, off + L.sh - L.lo, none⟩ : Addr).add (l1 * es))) (h1 - l1) (len - l1), fun w => ?_, ?_⟩
    · rcases ht with ⟨el, hu, hs⟩ | ⟨q, el, hq, hu, hs⟩
      · simp [Instr.sliceAt, run_underlying hu, Instr.sureAddr, hb w, run_sizeT hs]
      · simp [Instr.sliceAt, Instr.slice, run_underlying hq, run_underlying hu, asAddr, hb w, run_sizeT hs]
    · by_cases hz : len = l1
      · rw [if_pos hz]
        have : h1 - l1 = 0 := by omega
        rw [this]
        have hz2 : len - l1 = 0 := by omega
        rw [hz2]
        exact .slice0 a1 (by omega) (by omega) (by simp)
      · rw [if_neg hz, addr_add]
        have ho : off + L.sh - L.lo + l1 * es = off + l1 * es + L.sh - L.lo := by omega
        rw [ho]
        exact .slice a1 (by omega) (by omega) (by omega) (by simp) (by simp)
  · simp at h
end
end Go.PE
namespace Go.PE
section
variable {P : Program} {R : Ren}
theorem fieldAddr_ok {off : Nat} {x : V} {x' : Value} (hx : VR R x x') {v : V} (h : fieldAddrE off x = some v) {s : TypeId} {fs : Array Field} {i n : Nat} {f : Field}
    (hu : P.underlying s = some (.struct fs)) (hf : fs[i]? = some f) (hn : sizeT P f.type = some n) (h0 : 0 < n) (ho : f.offset = off) :
    ∃ v', (∀ w, (Instr.fieldAt s x' i).run P w = .ok v' w) ∧ VR R v v' := by
  have hrun : ∀ a w, (Instr.fieldAt s (.pointer (some a)) i).run P w = .ok (.pointer (some (a.add off))) w := by
    intro a w
    have : ¬ n = 0 := by omega
    simp [Instr.fieldAt, run_underlying hu, hf, Instr.sureAddr, fieldPlace, run_sizeT hn, this, ho]
  cases hx <;> simp only [fieldAddrE, Option.some.injEq, reduceCtorEq] at h
  · rename_i b v0 o ext L a1 a2 a3
    split at h
    · simp only [Option.some.injEq] at h; subst h
      refine ⟨_, hrun _, ?_⟩
      rw [addr_add, show o + L.sh - L.lo + off = o + off + L.sh - L.lo by omega]
      exact .ptr a1 (by omega) (by omega)
    · simp at h
  · rename_i l r o a1
    subst h
    refine ⟨_, hrun _, ?_⟩
    rw [addr_add]
    refine .pptr fun j y hj => ?_
    rw [List.getElem?_drop] at hj
    have := a1 _ _ hj
    rw [Nat.add_assoc]; exact this
theorem indexArr_ok {len es : Nat} {x i : V} {x' i' : Value} (hx : VR R x x') (hi : VR R i i') {v : V} (h : indexAddrArrE len es x i = some v) {t el : TypeId}
    (hu : P.underlying t = some (.array len el)) (hn : sizeT P el = some es) :
    ∃ v', (∀ w, (Instr.indexAt t x' i').run P w = .ok v' w) ∧ VR R v v' := by
  cases hi <;> simp only [indexAddrArrE, reduceCtorEq] at h
  rename_i k i
  split at h
  · rename_i hr
    have hrun : ∀ a w, (Instr.indexAt t (.pointer (some a)) (.int k i)).run P w = .ok (.pointer (some (a.add (i.toNat * es)))) w := by
      intro a w
      have hr' := hr
      simp [Instr.indexAt, asIntOf, run_underlying hu, Instr.sureAddr, hr', run_sizeT hn]
    cases hx <;> simp only [Option.some.injEq, reduceCtorEq] at h
    · rename_i b v0 o ext L a1 a2 a3
      split at h
      · simp only [Option.some.injEq] at h; subst h
        refine ⟨_, hrun _, ?_⟩
        rw [addr_add, show o + L.sh - L.lo + i.toNat * es = o + i.toNat * es + L.sh - L.lo by omega]
        exact .ptr a1 (by omega) (by omega)
      · simp at h
    · rename_i l r o a1
      subst h
      refine ⟨_, hrun _, ?_⟩
      rw [addr_add]
      refine .pptr fun j y hj => ?_
      have hjl : j < es := by
        have := (List.getElem?_eq_some_iff.1 hj).1
        simp at this; omega
      rw [List.getElem?_take, if_pos hjl, List.getElem?_drop] at hj
      have := a1 _ _ hj
      rw [Nat.add_assoc]; exact this
  · simp at h
theorem indexSl_ok {es : Nat} {x i : V} {x' i' : Value} (hx : VR R x x') (hi : VR R i i') {v : V} (h : indexAddrSlE es x i = some v) {t el : TypeId}
    (hu : P.underlying t = some (.slice el)) (hn : sizeT P el = some es) :
    ∃ v', (∀ w, (Instr.indexAt t x' i').run P w = .ok v' w) ∧ VR R v v' := by
  cases hi <;> simp only [indexAddrSlE, reduceCtorEq] at h
  rename_i k i
  have hrun : ∀ (a : Addr) (len c : Nat), 0 ≤ i ∧ i < len → ∀ w, (Instr.indexAt t (.slice (some a) len c) (.int k i)).run P w = .ok (.pointer (some (a.add (i.toNat * es)))) w := by
    intro a len c hr w
    simp [Instr.indexAt, asIntOf, run_underlying hu, hr, run_sizeT hn]
  cases hx <;> simp only [reduceCtorEq] at h
  · rename_i b v0 o len es' c cap L a1 a2 a3 a4 a5 a6
    split at h
    · rename_i hc
      obtain ⟨h1, h2, rfl⟩ := hc
      simp only [Option.some.injEq] at h; subst h
      refine ⟨_, hrun _ _ _ ⟨h1, h2⟩, ?_⟩
      rw [addr_add, show o + L.sh - L.lo + i.toNat * es = o + i.toNat * es + L.sh - L.lo by omega]
      have : i.toNat * es + es ≤ len * es := by
        have : (i.toNat + 1) * es ≤ len * es := Nat.mul_le_mul_right _ (by omega)
        rw [Nat.add_mul, Nat.one_mul] at this; exact this
      exact .ptr a1 (by omega) (by omega)
    · simp at h
  · split at h
    · rename_i hc; omega
    · simp at h
  · rename_i n r o c l a1 a2
    split at h
    · rename_i hc
      simp only [Option.some.injEq] at h; subst h
      refine ⟨_, hrun _ _ _ hc, ?_⟩
      rw [addr_add]
      refine .pptr fun j y hj => ?_
      have hjl : j < es := by
        have := (List.getElem?_eq_some_iff.1 hj).1
        simp at this; omega
      rw [List.getElem?_take, if_pos hjl, List.getElem?_drop] at hj
      have := a1 _ _ hj
      rw [Nat.add_assoc]; exact this
    · simp at h
theorem index_ok {arr : Option (Nat × Nat × Bool)} {x i : V} {x' i' : Value} (hx : VR R x x') (hi : VR R i i') {v : V} (h : indexE arr x i = some v) {t : TypeId}
    (ht : (∃ len es g el, arr = some (len, es, g) ∧ P.underlying t = some (.array len el) ∧ shapeT P el = some (g, es)) ∨ (arr = none ∧ P.underlying t = some .string)) :
    ∃ v', (∀ w, (Instr.index t x' i').run P w = .ok v' w) ∧ VR R v v' := by
  cases hi <;> simp only [indexE, reduceCtorEq] at h
  rename_i k i
  rcases ht with ⟨len, es, g, el, rfl, hu, hs⟩ | ⟨rfl, hu⟩
  · cases hx <;> simp only [reduceCtorEq] at h
    rename_i l cs hl
    split at h
    · rename_i hc
      obtain ⟨v', h1, h2⟩ := run_part (P := P) hs hl hc.2.2 h
      refine ⟨v', fun w => ?_, h2⟩
      have hr : 0 ≤ i ∧ i < (len : Int) := ⟨hc.1, hc.2.1⟩
      simp [Instr.index, asIntOf, run_underlying hu, hr, run_sizeT (shapeT_ok hs).1, h1 w]
    · simp at h
  · cases hx <;> simp only [reduceCtorEq] at h
    rename_i s
    split at h
    · rename_i h0
      split at h
      · rename_i b hb
        simp only [Option.some.injEq] at h; subst h
        refine ⟨.int .u8 b.toNat, fun w => ?_, .int _ _⟩
        have hb' : s[i.toNat]? = some b := by
          have hlt : i.toNat < s.data.toList.length := (List.getElem?_eq_some_iff.1 hb).1
          have hlt' : i.toNat < s.size := by simpa using hlt
          rw [getElem?_pos s i.toNat hlt']
          have : s[i.toNat] = s.data.toList[i.toNat] := by
            rw [Array.getElem_toList]; rfl
          rw [this]
          rw [List.getElem?_eq_getElem hlt] at hb
          exact hb
        simp [Instr.index, asIntOf, run_underlying hu, h0, hb']
      · simp at h
    · simp at h
theorem minmax_ok {mx : Bool} {x y : V} {x' y' : Value} (hx : VR R x x') (hy : VR R y y') {v : V} (h : minE mx x y = some v) (ats : Array TypeId) (t : TypeId) :
    ∃ v', (∀ w, ((if mx then Builtin.max_ ats t #[x', y'] else Builtin.min_ ats t #[x', y']) : Sem Value).run P w = .ok v' w) ∧ VR R v v' := by
  cases hx <;> cases hy <;> simp only [minE, Option.some.injEq, reduceCtorEq] at h
  subst h
  cases mx
  · exact ⟨_, fun w => rfl, .int _ _⟩
  · exact ⟨_, fun w => rfl, .int _ _⟩
theorem call_builtin {b : Builtin} {args : Array Operand} {ats : Array TypeId} {dst : Option Tmp} {ty : TypeId} {pos : String} {after : Array Edge} {guard : Option (Nat × Bool)} (a : Act) (w : World) :
    (execOp a.eval ⟨dst, .call ⟨.builtin b, args, ats⟩, ty, pos, after, guard⟩).run P w =
      (builtin b ats ty (args.map fun | .const _ => true | _ => false) (args.map a.eval)).run P w := by
  simp [execOp, resolve, invoke]
  rfl
theorem builtin_ok {b : Builtin} {ats : Array TypeId} {args : Array Operand} {eo : EOp} (hc : cBuiltin P b ats args.toList = some eo) (hp : eo.isPure = true) {e : Env} {a : Act} (hE : VRL R e a.tmps.toList)
    {X : Ctx} {H H' : Heap} {v : V} (h : evalOp X e H eo = some (v, H')) (ty : TypeId) (cs : Array Bool) : H' = H ∧ PureRun P R (builtin b ats ty cs (args.map a.eval)) v := by
  have harr : ∀ {α : Type} {l : Array α} {m : List α}, l.toList = m → l = m.toArray := by
    intro α l m h; rw [← h]
  unfold cBuiltin at hc
  split at hc
  · rename_i t x ht hx
    have hats := harr ht
    have hargs := harr hx
    subst hats; subst hargs
    split at hc
    · rename_i hu
      rw [Option.map_eq_some_iff] at hc
      obtain ⟨y, hy, rfl⟩ := hc
      have rx := opd_ok hy hE
      simp only [evalOp, Option.map_eq_some_iff, Prod.mk.injEq] at h
      obtain ⟨v1, hn, rfl, rfl⟩ := h
      refine ⟨rfl, ?_⟩
      cases hxv : y.ev e <;> rw [hxv] at hn rx <;> simp only [lenV, lenK, Option.some.injEq, reduceCtorEq] at hn
      · cases hcv : a.eval x <;> rw [hcv] at rx <;> cases rx
        subst hn
        exact ⟨goInt _, fun w => by simp [builtin, Builtin.len_, run_underlying hu, hcv], .int _ _⟩
      · split at hn
        · rename_i hlt
          split at hn
          · rename_i heq
            simp only [Option.some.injEq] at hn; subst hn
            cases hcv : a.eval x <;> rw [hcv] at rx <;> cases rx
            rename_i s0 h1 h2 h3
            refine ⟨goInt s0.size, fun w => by simp [builtin, Builtin.len_, run_underlying hu, hcv], ?_⟩
            have hsz : s0.size = _ := Nat.le_antisymm h3 (heq ▸ h2)
            rw [← hsz]
            exact .int _ _
          · simp only [Option.some.injEq] at hn; subst hn
            cases hcv : a.eval x <;> rw [hcv] at rx <;> cases rx
            rename_i s0 h1 h2 h3
            exact ⟨goInt s0.size, fun w => by simp [builtin, Builtin.len_, run_underlying hu, hcv], .abs ⟨by simpa using h2, by simpa using h3, by simp, .inl (by simp [Int.emod_one]), fun i hi => by simp at hi⟩⟩
        · simp at hn
    · rename_i el hu
      rw [Option.map_eq_some_iff] at hc
      obtain ⟨y, hy, rfl⟩ := hc
      have rx := opd_ok hy hE
      simp only [evalOp, Option.map_eq_some_iff, Prod.mk.injEq] at h
      obtain ⟨v1, hn, rfl, rfl⟩ := h
      have hn1 : ∃ n, lenK false (y.ev e) = some n ∧ v1 = .int .i64 (n : Int) := by
        unfold lenV at hn
        split at hn
        · rename_i n hk
          simp only [Option.some.injEq] at hn
          exact ⟨n, hk, hn.symm⟩
        · simp at hn
      clear hn
      obtain ⟨n, hn, rfl⟩ := hn1
      refine ⟨rfl, goInt n, fun w => ?_, .int _ _⟩
      have key : ∃ q c, a.eval x = .slice q n c := by
        cases hxv : y.ev e <;> rw [hxv] at hn rx <;> simp only [lenK, Option.some.injEq, reduceCtorEq] at hn <;> subst hn <;>
          cases hcv : a.eval x <;> rw [hcv] at rx <;> cases rx <;> exact ⟨_, _, rfl⟩
      obtain ⟨q, c, hq⟩ := key
      simp [builtin, Builtin.len_, run_underlying hu, hq]
    · rename_i n el hu
      simp only [Option.some.injEq] at hc; subst hc
      simp only [evalOp, Option.some.injEq, Prod.mk.injEq] at h
      obtain ⟨rfl, rfl⟩ := h
      exact ⟨rfl, goInt n, fun w => by simp [builtin, Builtin.len_, run_underlying hu], .int _ _⟩
    · rename_i q hu
      split at hc
      · rename_i n el hq
        simp only [Option.some.injEq] at hc; subst hc
        simp only [evalOp, Option.some.injEq, Prod.mk.injEq] at h
        obtain ⟨rfl, rfl⟩ := h
        exact ⟨rfl, goInt n, fun w => by simp [builtin, Builtin.len_, run_underlying hu, run_underlying hq], .int _ _⟩
      · simp at hc
    · simp at hc
  · split at hc
    · split at hc
      · simp at hc
      · split at hc
        · split at hc
          · simp only [Option.some.injEq] at hc; subst hc
            simp [EOp.isPure] at hp
          · simp at hc
        · simp at hc
    · simp at hc
  · split at hc
    · split at hc
      · split at hc
        · simp only [Option.some.injEq] at hc; subst hc
          simp [EOp.isPure] at hp
        · simp at hc
      · simp at hc
    · simp at hc
  · split at hc
    · split at hc
      · split at hc
        · simp only [Option.some.injEq] at hc; subst hc
          simp [EOp.isPure] at hp
        · simp at hc
      · simp at hc
    · simp at hc
  · rename_i x y hx
    have hargs := harr hx
    subst hargs
    split at hc
    · rename_i x1 y1 hx1 hy1
      simp only [Option.some.injEq] at hc; subst hc
      simp only [evalOp] at h
      obtain ⟨h1, rfl⟩ := pure1_ok h
      obtain ⟨v', h2, h3⟩ := minmax_ok (P := P) (opd_ok hx1 hE) (opd_ok hy1 hE) h1 ats ty
      exact ⟨rfl, v', fun w => by have h4 := h2 w; simp at h4; simp [builtin, h4], h3⟩
    · simp at hc
  · rename_i x y hx
    have hargs := harr hx
    subst hargs
    split at hc
    · rename_i x1 y1 hx1 hy1
      simp only [Option.some.injEq] at hc; subst hc
      simp only [evalOp] at h
      obtain ⟨h1, rfl⟩ := pure1_ok h
      obtain ⟨v', h2, h3⟩ := minmax_ok (P := P) (opd_ok hx1 hE) (opd_ok hy1 hE) h1 ats ty
      exact ⟨rfl, v', fun w => by have h4 := h2 w; simp at h4; simp [builtin, h4], h3⟩
    · simp at hc
  · simp at hc
theorem pure_ok {o : Oper} {eo : EOp} (hc : cOp P o = some eo) (hp : eo.isPure = true) {e : Env} {a : Act} (hE : VRL R e a.tmps.toList) {X : Ctx} {H H' : Heap} {v : V}
    (h : evalOp X e H eo = some (v, H')) : H' = H ∧ PureRun P R (execOp a.eval o) v := by
  obtain ⟨dst, op, ty, pos, after, guard⟩ := o
  cases op with
  | move x | assign x =>
    simp only [cOp, Option.map_eq_some_iff] at hc
    obtain ⟨y, hy, rfl⟩ := hc
    obtain ⟨rfl, hv⟩ := mv_ok hy hE h
    exact ⟨rfl, a.eval x, fun w => rfl, hv⟩
  | pick c x y =>
    simp only [cOp, Option.bind_eq_bind, Option.bind_eq_some_iff, Option.some.injEq] at hc
    obtain ⟨c1, hc1, x1, hx1, y1, hy1, rfl⟩ := hc
    simp only [evalOp] at h
    have rc := opd_ok hc1 hE
    split at h
    · rename_i t ht
      rw [ht] at rc
      simp only [Option.some.injEq, Prod.mk.injEq] at h
      obtain ⟨rfl, rfl⟩ := h
      refine ⟨rfl, if t then a.eval x else a.eval y, fun w => ?_, ?_⟩
      · cases hcv : a.eval c <;> rw [hcv] at rc <;> cases rc
        simp [execOp, asBool, hcv]
      · cases t
        · exact opd_ok hy1 hE
        · exact opd_ok hx1 hE
    · simp at h
  | build t parts =>
    simp only [cOp] at hc
    split at hc
    · rename_i z fs hz hu
      split at hc
      · rename_i hall
        rw [Option.map_eq_some_iff] at hc
        obtain ⟨ps, hps, rfl⟩ := hc
        obtain ⟨rfl, v', h1, h2⟩ := build_ok hz (.inl ⟨fs, hu, hall, hps⟩) hE h
        exact ⟨rfl, PureRun.of h1 h2⟩
      · simp at hc
    · rename_i z len el hz hu
      split at hc
      · rename_i n hn
        rw [Option.map_eq_some_iff] at hc
        obtain ⟨ps, hps, rfl⟩ := hc
        obtain ⟨rfl, v', h1, h2⟩ := build_ok hz (.inr ⟨len, el, n, hu, hn, hps⟩) hE h
        exact ⟨rfl, PureRun.of h1 h2⟩
      · simp at hc
    · simp at hc
  | nilCheck x =>
    simp only [cOp, Option.map_eq_some_iff] at hc
    obtain ⟨y, hy, rfl⟩ := hc
    have rx := opd_ok hy hE
    simp only [evalOp] at h
    split at h
    · rename_i b v0 o n hxv
      rw [hxv] at rx
      simp only [Option.some.injEq, Prod.mk.injEq] at h
      obtain ⟨rfl, rfl⟩ := h
      refine ⟨rfl, a.eval x, fun w => ?_, rx⟩
      cases hcv : a.eval x <;> rw [hcv] at rx <;> cases rx
      simp [execOp, hcv]
    · rename_i l hxv
      rw [hxv] at rx
      simp only [Option.some.injEq, Prod.mk.injEq] at h
      obtain ⟨rfl, rfl⟩ := h
      refine ⟨rfl, a.eval x, fun w => ?_, rx⟩
      cases hcv : a.eval x <;> rw [hcv] at rx <;> cases rx
      simp [execOp, hcv]
    · rename_i f p q hxv
      rw [hxv] at rx
      simp only [Option.some.injEq, Prod.mk.injEq] at h
      obtain ⟨rfl, rfl⟩ := h
      refine ⟨rfl, a.eval x, fun w => ?_, rx⟩
      cases hcv : a.eval x <;> rw [hcv] at rx <;> cases rx
      simp [execOp, hcv]
    · simp at h
  | binOp op t x y yt =>
    simp only [cOp] at hc
    rcases eqlOp op with hop | hop
    · obtain ⟨rfl, v', h1, h2⟩ := eq_op_ok hop hc hE h
      exact ⟨rfl, PureRun.of h1 h2⟩
    · unfold cBin at hc
      split at hc
      · rename_i x1 y1 hx hy
        rw [if_neg (by simp [hop.1, hop.2])] at hc
        simp only [Option.some.injEq] at hc; subst hc
        simp only [evalOp] at h
        obtain ⟨h0, rfl⟩ := pure1_ok h
        obtain ⟨v', h1, h2⟩ := bin_ok (P := P) (t := t) (a := x) (b := y) (opd_ok hx hE) (opd_ok hy hE) hop h0
        exact ⟨rfl, PureRun.of h1 h2⟩
      · simp at hc
  | unOp op t x =>
    simp only [cOp, Option.map_eq_some_iff] at hc
    obtain ⟨y, hy, rfl⟩ := hc
    have rx := opd_ok hy hE
    simp only [evalOp] at h
    obtain ⟨h1, rfl⟩ := pure1_ok h
    refine ⟨rfl, ?_⟩
    unfold unE at h1
    split at h1
    · rename_i b hb
      rw [hb] at rx
      simp only [Option.some.injEq] at h1; subst h1
      cases hcv : a.eval x <;> rw [hcv] at rx <;> cases rx
      exact ⟨_, fun w => by simp [execOp, hcv, Op.unary], .bool _⟩
    · rename_i k n hb
      rw [hb] at rx
      simp only [Option.some.injEq] at h1; subst h1
      cases hcv : a.eval x <;> rw [hcv] at rx <;> cases rx
      exact ⟨_, fun w => by simp [execOp, hcv, Op.unary, Op.intArith], .int _ _⟩
    · simp at h1
  | convert src dt x =>
    simp only [cOp] at hc
    split at hc
    · rename_i k1 k hs hd
      rw [Option.map_eq_some_iff] at hc
      obtain ⟨y, hy, rfl⟩ := hc
      have rx := opd_ok hy hE
      simp only [evalOp] at h
      split at h
      · rename_i k0 n hb
        rw [hb] at rx
        simp only [Option.some.injEq, Prod.mk.injEq] at h
        obtain ⟨rfl, rfl⟩ := h
        cases hcv : a.eval x <;> rw [hcv] at rx <;> cases rx
        exact ⟨rfl, _, fun w => by simp [execOp, hcv, convert, run_underlying hs, run_underlying hd, Conv.intToInt], .int _ _⟩
      · rename_i k0 d hb
        rw [hb] at rx
        split at h
        · rename_i hf
          simp only [Option.some.injEq, Prod.mk.injEq] at h
          obtain ⟨rfl, rfl⟩ := h
          cases hcv : a.eval x <;> rw [hcv] at rx <;> cases rx
          rename_i n hd1
          refine ⟨rfl, .int k (k.wrap n), fun w => by simp [execOp, hcv, convert, run_underlying hs, run_underlying hd, Conv.intToInt], ?_⟩
          rw [wrap_fits hf hd1.lo hd1.hi]
          exact .abs hd1
        · simp at h
      · simp at h
    · rename_i hs hd
      rw [Option.map_eq_some_iff] at hc
      obtain ⟨y, hy, rfl⟩ := hc
      have rx := opd_ok hy hE
      simp only [evalOp] at h
      split at h
      · rename_i s0 hb
        rw [hb] at rx
        simp only [Option.some.injEq, Prod.mk.injEq] at h
        obtain ⟨rfl, rfl⟩ := h
        cases hcv : a.eval x <;> rw [hcv] at rx <;> cases rx
        exact ⟨rfl, _, fun w => by simp [execOp, hcv, convert, run_underlying hs, run_underlying hd], .str _⟩
      · simp at h
    · split at hc
      · rw [Option.map_eq_some_iff] at hc
        obtain ⟨y, hy, rfl⟩ := hc
        simp [EOp.isPure] at hp
      · simp at hc
    · simp at hc
  | makeInterface t x =>
    simp only [cOp] at hc
    split at hc
    · simp at hc
    · rename_i d hu hni
      rw [Option.map_eq_some_iff] at hc
      obtain ⟨y, hy, rfl⟩ := hc
      have rx := opd_ok hy hE
      simp only [evalOp, Option.some.injEq, Prod.mk.injEq] at h
      obtain ⟨rfl, rfl⟩ := h
      refine ⟨rfl, .iface t (a.eval x), fun w => ?_, .iface rx⟩
      cases d <;> first
        | exact absurd rfl (hu _)
        | simp [execOp, Instr.makeInterface, run_underlying hni]
    · simp at hc
  | makeFunc fn first captured =>
    cases fn <;> simp only [cOp, reduceCtorEq] at hc
    split at hc
    · rename_i f _ _ p q hp1 hq1
      simp only [Option.some.injEq] at hc; subst hc
      simp only [evalOp, Option.some.injEq, Prod.mk.injEq] at h
      obtain ⟨rfl, rfl⟩ := h
      refine ⟨rfl, .func (.func f) (first.map a.eval) (captured.map a.eval), fun w => rfl, .fn ?_ ?_⟩
      · simpa using opds_ok hp1 hE
      · simpa using opds_ok hq1 hE
    · simp at hc
  | slice t x lo hi mx =>
    cases mx <;> simp only [cOp, reduceCtorEq] at hc
    split at hc
    · rename_i x1 lo1 hi1 hx hlo hhi
      have rx := opd_ok hx hE
      have rlo := optB_ok hlo hE
      have rhi := optB_ok hhi hE
      split at hc
      · rename_i hu
        simp only [Option.some.injEq] at hc; subst hc
        simp only [evalOp] at h
        obtain ⟨h1, rfl⟩ := pure1_ok h
        obtain ⟨v', h2, h3⟩ := subs_ok (P := P) (t := t) rx rlo rhi h1 hu
        exact ⟨rfl, PureRun.of h2 h3⟩
      · rename_i el hu
        split at hc
        · rename_i n hn
          split at hc
          · simp only [Option.some.injEq] at hc; subst hc
            simp only [evalOp] at h
            obtain ⟨h1, rfl⟩ := pure1_ok h
            obtain ⟨v', h2, h3⟩ := slice_ok (P := P) (t := t) rx rlo rhi h1 hu hn
            exact ⟨rfl, PureRun.of h2 h3⟩
          · simp at hc
        · simp at hc
      · rename_i len el hu
        split at hc
        · rename_i n hn
          split at hc
          · simp only [Option.some.injEq] at hc; subst hc
            simp only [evalOp] at h
            obtain ⟨h1, rfl⟩ := pure1_ok h
            obtain ⟨v', h2, h3⟩ := sliceArr_ok (P := P) (t := t) rx rlo rhi h1 (.inl ⟨el, hu, hn⟩)
            exact ⟨rfl, PureRun.of h2 h3⟩
          · simp at hc
        · simp at hc
      · rename_i q hu
        split at hc
        · rename_i len el hq
          split at hc
          · rename_i n hn
            split at hc
            · simp only [Option.some.injEq] at hc; subst hc
              simp only [evalOp] at h
              obtain ⟨h1, rfl⟩ := pure1_ok h
              obtain ⟨v', h2, h3⟩ := sliceArr_ok (P := P) (t := t) rx rlo rhi h1 (.inr ⟨q, el, hu, hq, hn⟩)
              exact ⟨rfl, PureRun.of h2 h3⟩
            · simp at hc
          · simp at hc
        · simp at hc
      · simp at hc
    · simp at hc
  | fieldAddr s x f =>
    simp only [cOp] at hc
    split at hc
    · rename_i fs hu
      split at hc
      · rename_i fd hf
        split at hc
        · rename_i n x1 hn hx
          split at hc
          · rename_i h0
            simp only [Option.some.injEq] at hc; subst hc
            simp only [evalOp] at h
            obtain ⟨h1, rfl⟩ := pure1_ok h
            obtain ⟨v', h2, h3⟩ := fieldAddr_ok (P := P) (opd_ok hx hE) h1 hu hf hn h0 rfl
            exact ⟨rfl, PureRun.of h2 h3⟩
          · simp at hc
        · simp at hc
      · simp at hc
    · simp at hc
  | field t x f =>
    simp only [cOp] at hc
    split at hc
    · rename_i fs hu
      split at hc
      · rename_i fd hf
        split at hc
        · rename_i g n x1 hs hx
          simp only [Option.some.injEq] at hc; subst hc
          simp only [evalOp] at h
          obtain ⟨h1, rfl⟩ := pure1_ok h
          have rx := opd_ok hx hE
          unfold fieldE at h1
          split at h1
          · rename_i cs hcs
            rw [hcs] at rx
            split at h1
            · rename_i hle
              cases hcv : a.eval x <;> rw [hcv] at rx <;> cases rx
              rename_i xs hxs
              obtain ⟨v', h2, h3⟩ := run_part (P := P) hs hxs hle h1
              exact ⟨rfl, v', fun w => by simp [execOp, Instr.field, run_underlying hu, hf, hcv, asAgg, h2 w], h3⟩
            · simp at h1
          · simp at h1
        · simp at hc
      · simp at hc
    · simp at hc
  | indexAddr t x i =>
    simp only [cOp] at hc
    split at hc
    · rename_i len el x1 i1 hu hx hi
      split at hc
      · rename_i n hn
        split at hc
        · simp only [Option.some.injEq] at hc; subst hc
          simp only [evalOp] at h
          obtain ⟨h1, rfl⟩ := pure1_ok h
          obtain ⟨v', h2, h3⟩ := indexArr_ok (P := P) (opd_ok hx hE) (opd_ok hi hE) h1 hu hn
          exact ⟨rfl, PureRun.of h2 h3⟩
        · simp at hc
      · simp at hc
    · rename_i el x1 i1 hu hx hi
      split at hc
      · rename_i n hn
        split at hc
        · simp only [Option.some.injEq] at hc; subst hc
          simp only [evalOp] at h
          obtain ⟨h1, rfl⟩ := pure1_ok h
          obtain ⟨v', h2, h3⟩ := indexSl_ok (P := P) (opd_ok hx hE) (opd_ok hi hE) h1 hu hn
          exact ⟨rfl, PureRun.of h2 h3⟩
        · simp at hc
      · simp at hc
    · simp at hc
  | index t x i =>
    simp only [cOp] at hc
    split at hc
    · rename_i len el x1 i1 hu hx hi
      split at hc
      · rename_i g n hs
        simp only [Option.some.injEq] at hc; subst hc
        simp only [evalOp] at h
        obtain ⟨h1, rfl⟩ := pure1_ok h
        obtain ⟨v', h2, h3⟩ := index_ok (P := P) (opd_ok hx hE) (opd_ok hi hE) h1 (.inl ⟨len, n, g, el, rfl, hu, hs⟩)
        exact ⟨rfl, PureRun.of h2 h3⟩
      · simp at hc
    · rename_i x1 i1 hu hx hi
      simp only [Option.some.injEq] at hc; subst hc
      simp only [evalOp] at h
      obtain ⟨h1, rfl⟩ := pure1_ok h
      obtain ⟨v', h2, h3⟩ := index_ok (P := P) (opd_ok hx hE) (opd_ok hi hE) h1 (.inr ⟨rfl, hu⟩)
      exact ⟨rfl, PureRun.of h2 h3⟩
    · simp at hc
  | extract x i =>
    simp only [cOp, Option.map_eq_some_iff] at hc
    obtain ⟨y, hy, rfl⟩ := hc
    have rx := opd_ok hy hE
    simp only [evalOp] at h
    split at h
    · rename_i l hl
      rw [hl] at rx
      obtain ⟨h1, rfl⟩ := pure1_ok h
      cases hcv : a.eval x <;> rw [hcv] at rx <;> cases rx
      rename_i xs hxs
      obtain ⟨v', h2, h3⟩ := hxs.get h1
      have h2' : xs[i]? = some v' := by simpa using h2
      exact ⟨rfl, v', fun w => by simp [execOp, Instr.extract, hcv, h2'], h3⟩
    · simp at h
  | call c =>
    obtain ⟨callee, args, ats⟩ := c
    simp only [cOp] at hc
    cases callee with
    | invoke r m => simp at hc
    | value f =>
      cases f <;> simp only at hc
      case func f =>
        rw [Option.map_eq_some_iff] at hc
        obtain ⟨y, hy, rfl⟩ := hc
        simp [EOp.isPure] at hp
      all_goals
        split at hc
        · simp only [Option.some.injEq] at hc; subst hc
          simp [EOp.isPure] at hp
        · simp at hc
    | builtin b =>
      simp only at hc
      obtain ⟨rfl, v', h1, h2⟩ := builtin_ok hc hp hE h ty (args.map fun | .const _ => true | _ => false)
      exact ⟨rfl, v', fun w => by rw [call_builtin, h1 w], h2⟩
  | alloc t =>
    simp only [cOp, Option.map_eq_some_iff] at hc
    obtain ⟨y, hy, rfl⟩ := hc
    simp [EOp.isPure] at hp
  | box t x =>
    simp only [cOp, Option.map_eq_some_iff] at hc
    obtain ⟨y, hy, rfl⟩ := hc
    simp [EOp.isPure] at hp
  | buildSlice t len parts =>
    simp only [cOp] at hc
    split at hc
    · split at hc
      · split at hc
        · rw [Option.map_eq_some_iff] at hc
          obtain ⟨y, hy, rfl⟩ := hc
          simp [EOp.isPure] at hp
        · simp at hc
      · simp at hc
    · simp at hc
  | load t x =>
    simp only [cOp] at hc
    split at hc
    · simp only [Option.some.injEq] at hc; subst hc
      simp [EOp.isPure] at hp
    · simp at hc
  | store t x y =>
    simp only [cOp] at hc
    split at hc
    · simp only [Option.some.injEq] at hc; subst hc
      simp [EOp.isPure] at hp
    · simp at hc
  | makeMap t r =>
    cases r <;> simp only [cOp, reduceCtorEq] at hc
    split at hc
    · split at hc
      · simp only [Option.some.injEq] at hc; subst hc
        simp [EOp.isPure] at hp
      · simp at hc
    · simp at hc
  | makeSlice t l c =>
    simp only [cOp] at hc
    split at hc
    · split at hc
      · split at hc
        · simp only [Option.some.injEq] at hc; subst hc
          simp [EOp.isPure] at hp
        · simp at hc
      · simp at hc
    · simp at hc
  | lookup t m k ok =>
    simp only [cOp] at hc
    split at hc
    · split at hc
      · simp only [Option.some.injEq] at hc; subst hc
        simp [EOp.isPure] at hp
      · simp at hc
    · simp at hc
  | mapUpdate t m k x =>
    simp only [cOp] at hc
    split at hc
    · split at hc
      · simp only [Option.some.injEq] at hc; subst hc
        simp [EOp.isPure] at hp
      · simp at hc
    · simp at hc
  | _ => simp only [cOp, reduceCtorEq] at hc
end
end Go.PE
namespace Go.PE
def EOp.isAlloc : EOp → Bool
  | .new _ | .box .. | .buildSl .. | .mkMap | .mkSl .. => true
  | _ => false
section
variable {P : Program} {R : Ren}
def MemRun (P : Program) (R : Ren) (w : World) (s : Sem Next) (v : V) (g' : Get) (D : Nat → Prop) : Prop :=
  ∃ v' w' R', (s.run P w = .ok (.value v') w' ∨ (s.run P w = .ok .skip w' ∧ v' = undef)) ∧ StepR R w R' w' ∧ Rel R' g' w' ∧ VR R' v v' ∧ ∀ b, R'.Dom b → R.Dom b ∨ D b
theorem getElem?_repeatL (z : List V) : ∀ (n j : Nat), j < n * z.length → (repeatL z n)[j]? = z[j % z.length]?
  | 0, j, h => by simp at h
  | n + 1, j, h => by
    have hz : 0 < z.length := by
      rcases Nat.eq_zero_or_pos z.length with h0 | h0
      · rw [h0] at h; simp at h
      · exact h0
    simp only [repeatL]
    by_cases hj : j < z.length
    · rw [List.getElem?_append_left hj, Nat.mod_eq_of_lt hj]
    · rw [List.getElem?_append_right (by omega), getElem?_repeatL z n (j - z.length) (by rw [Nat.add_mul] at h; omega)]
      congr 1
      exact (Nat.mod_eq_sub_mod (by omega)).symm
theorem length_repeatL (z : List V) : ∀ (n : Nat), (repeatL z n).length = n * z.length
  | 0 => by simp [repeatL]
  | n + 1 => by simp [repeatL, length_repeatL z n, Nat.add_mul, Nat.add_comm]
theorem all_repeatL {z : List V} (h : z.all V.one = true) : ∀ (n : Nat), (repeatL z n).all V.one = true
  | 0 => rfl
  | n + 1 => by rw [repeatL, List.all_append, h, all_repeatL h n]; rfl
theorem repeat_ok {z : List V} {zs : Array Value} (h : VRL R z zs.toList) (n : Nat) :
    VRL R (repeatL z n) ((Array.range (n * zs.size)).map (zs[· % zs.size]!)).toList := by
  have hl := h.length
  simp only [Array.length_toList] at hl
  refine VRL.of_get (by rw [length_repeatL]; simp [hl]) fun j v hv => ?_
  have hj : j < n * z.length := by
    have := (List.getElem?_eq_some_iff.1 hv).1
    rw [length_repeatL] at this; exact this
  rw [getElem?_repeatL z n j hj] at hv
  obtain ⟨y, hy, hr⟩ := h.get hv
  refine ⟨y, ?_, hr⟩
  rw [hl] at hy hj
  rw [Array.getElem?_toList, Array.getElem?_map, Array.getElem?_range, if_pos hj, Option.map_some]
  rw [Array.getElem?_toList] at hy
  rw [getElem!_def, hy]
theorem wrap_small {n : Int} (h0 : 0 ≤ n) (h : n < 2 ^ 40) : IntKind.i64.wrap n = n := IntWalk.i64_in n (by omega)
theorem elemSlice_ok {t el : TypeId} {n : Nat} (hel : elemSlice P t = some (el, n)) : P.underlying t = some (.slice el) ∧ sizeT P el = some n := by
  unfold elemSlice at hel
  split at hel
  · rename_i e1 hu
    rw [Option.map_eq_some_iff] at hel
    obtain ⟨m, hm, he⟩ := hel
    simp only [Prod.mk.injEq] at he
    obtain ⟨rfl, rfl⟩ := he
    exact ⟨hu, hm⟩
  · simp at hel
theorem Rel.congr {g g' : Get} {w : World} (h : Rel R g w) (hs : ∀ k, ((∃ v L, R.loc k v = some L) ∨ ∃ r, R.mp k = some r) → g' k = g k) : Rel R g' w := by
  refine ⟨fun b v L e => ?_, h.inj, fun b r e => ?_, h.mpinj, h.im, h.imloc⟩
  · obtain ⟨l, ver, mn, c, t, hg1, ho1, hk1⟩ := h.loc b v L e
    exact ⟨l, ver, mn, c, t, by rw [hs b (.inl ⟨v, L, e⟩)]; exact hg1, ho1, hk1⟩
  · obtain ⟨es, clock, es', hg1, hk1, hm1⟩ := h.mp b r e
    exact ⟨es, clock, es', by rw [hs b (.inr ⟨r, e⟩)]; exact hg1, hk1, hm1⟩
theorem same_named {g g' : Get} {b : Nat} (hb : ∀ v, R.loc b v = none) (hm : R.mp b = none)
    (hk : ∀ k, k ≠ b → ((∃ v L, R.loc k v = some L) ∨ ∃ r, R.mp k = some r) → g' k = g k) : ∀ k, ((∃ v L, R.loc k v = some L) ∨ ∃ r, R.mp k = some r) → g' k = g k := by
  intro k hdom
  by_cases hkb : k = b
  · subst hkb
    rcases hdom with ⟨v, L, hv⟩ | ⟨r, hr⟩
    · rw [hb v] at hv; simp at hv
    · rw [hm] at hr; simp at hr
  · exact hk k hkb hdom
theorem take_all {α : Type} (l : List α) (n : Nat) (h : n = l.length) : l.take n = l := by subst h; simp
theorem Rel.allocRow {g g' : Get} {w : World} (h : Rel R g w) {b : Nat} (hb : ∀ v, R.loc b v = none) (hm : R.mp b = none) {cs : List V} {c : Array Value} {t : TypeId}
    (hg : g' b = some (.cells cs 0 0)) (hk : ∀ k, k ≠ b → ((∃ v L, R.loc k v = some L) ∨ ∃ r, R.mp k = some r) → g' k = g k) (hone : cs.all V.one = true) (hv : VRL R cs c.toList) :
    Rel (R.addLoc b 0 ⟨w.heap.size, 0, cs.length, c.size, 0⟩) g' (w.alloc (.cells c t)) ∧ StepR R w (R.addLoc b 0 ⟨w.heap.size, 0, cs.length, c.size, 0⟩) (w.alloc (.cells c t)) := by
  have hl := hv.length
  simp only [Array.length_toList] at hl
  exact h.alloc hb hm hg hk hone (by omega) (by rw [take_all _ _ (by simpa using hl)]; exact hv)
def Op.mayAlloc : Op → Bool
  | .alloc _ | .box .. | .buildSlice .. | .makeMap .. | .makeSlice .. => true
  | _ => false
theorem notAlloc_builtin {b : Builtin} {ats : Array TypeId} {args : List Operand} {eo : EOp} (hc : cBuiltin P b ats args = some eo) : eo.isAlloc = false := by
  unfold cBuiltin at hc
  repeat' split at hc
  all_goals first
    | (simp only [reduceCtorEq] at hc; done)
    | (rw [Option.map_eq_some_iff] at hc; obtain ⟨y, hy, rfl⟩ := hc; rfl)
    | (simp only [Option.some.injEq] at hc; subst hc; rfl)
theorem notAlloc {o : Oper} {eo : EOp} (hc : cOp P o = some eo) (h : Op.mayAlloc o.op = false) : eo.isAlloc = false := by
  obtain ⟨dst, op, ty, pos, after, guard⟩ := o
  cases op <;> simp only [Op.mayAlloc, Bool.true_eq_false] at h
  case move | assign | nilCheck | unOp | extract =>
    simp only [cOp, Option.map_eq_some_iff] at hc
    obtain ⟨y, hy, rfl⟩ := hc
    rfl
  case pick =>
    simp only [cOp, Option.bind_eq_bind, Option.bind_eq_some_iff, Option.some.injEq] at hc
    obtain ⟨c1, hc1, x1, hx1, y1, hy1, rfl⟩ := hc
    rfl
  case binOp =>
    simp only [cOp, cBin, cEq] at hc
    repeat' split at hc
    all_goals first
      | (simp only [reduceCtorEq] at hc; done)
      | (rw [Option.map_eq_some_iff] at hc; obtain ⟨y, hy, rfl⟩ := hc; rfl)
      | (simp only [Option.some.injEq] at hc; subst hc; rfl)
  case call c =>
    obtain ⟨callee, args, ats⟩ := c
    simp only [cOp] at hc
    cases callee with
    | invoke r m => simp at hc
    | builtin b => exact notAlloc_builtin hc
    | value f =>
      cases f <;> simp only at hc
      case func f =>
        rw [Option.map_eq_some_iff] at hc
        obtain ⟨y, hy, rfl⟩ := hc
        rfl
      all_goals
        split at hc
        · simp only [Option.some.injEq] at hc; subst hc; rfl
        · simp at hc
  case makeFunc fn first captured =>
    cases fn <;> simp only [cOp, reduceCtorEq] at hc
    split at hc
    · simp only [Option.some.injEq] at hc; subst hc; rfl
    · simp at hc
  case slice t x lo hi mx =>
    cases mx <;> simp only [cOp, reduceCtorEq] at hc
    repeat' split at hc
    all_goals first
      | (simp only [reduceCtorEq] at hc; done)
      | (simp only [Option.some.injEq] at hc; subst hc; rfl)
  all_goals
    simp only [cOp] at hc
    repeat' split at hc
    all_goals first
      | (simp only [reduceCtorEq] at hc; done)
      | (rw [Option.map_eq_some_iff] at hc; obtain ⟨y, hy, rfl⟩ := hc; rfl)
      | (simp only [Option.some.injEq] at hc; subst hc; rfl)
theorem alloc_ok {o : Oper} {eo : EOp} (hc : cOp P o = some eo) (hp : eo.isAlloc = true) {e : Env} {a : Act} (hE : VRL R e a.tmps.toList) {X : Ctx} {H H' : Heap} {v : V}
    (h : evalOp X e H eo = some (v, H')) : (H' = H ∨ ∃ bx, H' = H ++ [bx]) ∧ ∀ {g g' : Get} {w : World}, Rel R g w → (∀ v, R.loc H.length v = none) → R.mp H.length = none →
      (∀ bx, H' = H ++ [bx] → g' H.length = some bx) → (∀ k, k ≠ H.length → ((∃ v L, R.loc k v = some L) ∨ ∃ r, R.mp k = some r) → g' k = g k) →
      MemRun P R w (execOp a.eval o) v g' (fun b => b = H.length ∧ ∃ bx, H' = H ++ [bx]) := by
  obtain ⟨dst, op, ty, pos, after, guard⟩ := o
  cases op with
  | alloc t =>
    simp only [cOp, Option.map_eq_some_iff] at hc
    obtain ⟨z, hz, rfl⟩ := hc
    simp only [evalOp, newBox] at h
    split at h
    · rename_i hone
      simp only [Option.some.injEq, Prod.mk.injEq] at h
      obtain ⟨rfl, rfl⟩ := h
      refine ⟨.inr ⟨_, rfl⟩, fun hrel hb hm hg hk => ?_⟩
      rename_i g g' w
      obtain ⟨i, zv, hi, hzv, hrz⟩ := zeroT_ok (R := R) hz
      obtain ⟨h1, h2⟩ := hrel.allocRow (t := t) hb hm (hg _ rfl) hk hone hrz
      refine ⟨_, _, _, .inl ?_, h2, h1, .ptr (Ren.addLoc_self _ _ _ _) (Nat.zero_le _) (by simp), fun b hb => (Ren.addLoc_dom hb).imp id fun e => ⟨e, _, rfl⟩⟩
      simp [execOp, Instr.alloc, run_zero hi hzv, newVar, newRow]
    · simp at h
  | box t x =>
    simp only [cOp, Option.map_eq_some_iff] at hc
    obtain ⟨y, hy, rfl⟩ := hc
    have rx := (opd_ok hy hE).cells
    simp only [evalOp, newBox] at h
    split at h
    · rename_i hone
      simp only [Option.some.injEq, Prod.mk.injEq] at h
      obtain ⟨rfl, rfl⟩ := h
      refine ⟨.inr ⟨_, rfl⟩, fun hrel hb hm hg hk => ?_⟩
      rename_i g g' w
      obtain ⟨h1, h2⟩ := hrel.allocRow (t := t) hb hm (hg _ rfl) hk hone rx
      refine ⟨_, _, _, .inl ?_, h2, h1, .ptr (Ren.addLoc_self _ _ _ _) (Nat.zero_le _) (by simp), fun b hb => (Ren.addLoc_dom hb).imp id fun e => ⟨e, _, rfl⟩⟩
      simp [execOp, Instr.box, newVar, newRow]
    · simp at h
  | buildSlice t len parts =>
    simp only [cOp] at hc
    split at hc
    · rename_i el n hel
      split at hc
      · rename_i z hz
        split at hc
        · rename_i hcond
          rw [Option.map_eq_some_iff] at hc
          obtain ⟨ps, hps, rfl⟩ := hc
          simp only [Bool.and_eq_true, decide_eq_true_eq, beq_iff_eq, Bool.or_eq_true, bne_iff_ne, ne_eq] at hcond
          obtain ⟨⟨⟨hn0, hzl⟩, hsmall⟩, hparts⟩ := hcond
          have hu := elemSlice_ok hel
          obtain ⟨i, zv, hi, hzv, hrz⟩ := zeroT_ok (R := R) hz
          have hzvl : zv.cells.size = n := by
            have := hrz.length
            simp at this; omega
          simp only [evalOp] at h
          have hlim : ¬ len * n > 2 ^ 24 := by omega
          have hmulz : len ≠ 0 → ¬ len * n = 0 := by
            intro hl0 hm
            rcases Nat.mul_eq_zero.1 hm with h0 | h0 <;> omega
          have hzero : ∀ w, (if len * n = 0 then pure #[] else do pure (← zeroValue el).cells : Sem (Array Value)).run P w = .ok (if len * n = 0 then #[] else zv.cells) w := by
            intro w
            split
            · rfl
            · simp [run_zero hi hzv]
          split at h
          · rename_i hl0
            simp only [Option.some.injEq, Prod.mk.injEq] at h
            obtain ⟨rfl, rfl⟩ := h
            subst hl0
            have hnil : parts = #[] := by
              rcases hparts with hq | hq
              · exact absurd rfl hq
              · simpa using hq
            subst hnil
            refine ⟨.inl rfl, fun hrel hb hm hg hk => ?_⟩
            rename_i g g' w
            obtain ⟨h1, h2⟩ := hrel.junk (.cells #[] el)
            have h1' : Rel R g' (w.alloc (.cells #[] el)) := h1.congr (same_named hb hm hk)
            refine ⟨.slice (some ⟨w.heap.size, 0, none⟩) 0 0, _, _, .inl ?_, h2, h1', .emp0, fun b hb => .inl hb⟩
            simp [execOp, Instr.buildSlice, run_underlying hu.1, run_sizeT hu.2, newRow, Instr.fill, Array.range]
            congr 2
            exact Array.eq_empty_of_size_eq_zero (by simp)
          · rename_i hl0
            split at h
            · rename_i cs hcs
              split at h
              · rename_i hone
                simp only [Option.some.injEq, Prod.mk.injEq] at h
                obtain ⟨rfl, rfl⟩ := h
                refine ⟨.inr ⟨_, rfl⟩, fun hrel hb hm hg hk => ?_⟩
                rename_i g g' w
                have hrep := repeat_ok hrz len
                rw [hzvl] at hrep
                obtain ⟨ys, hy1, hy2⟩ := cParts_ok hps hE hrep hcs
                obtain ⟨h1, h2⟩ := hrel.allocRow (t := el) hb hm (hg _ rfl) hk hone hy2
                have hcsl : cs.length = len * n := by
                  have : ∀ (ps : List (Nat × Nat × V)) (l m : List V), fillE l ps = some m → m.length = l.length := by
                    intro ps
                    induction ps with
                    | nil => intro l m hf; simp only [fillE, Option.some.injEq] at hf; rw [hf]
                    | cons p ps ih =>
                      intro l m hf
                      obtain ⟨o1, s1, v1⟩ := p
                      simp only [fillE] at hf
                      split at hf
                      · rename_i hcnd
                        rw [ih _ _ hf, length_splice (by omega)]
                      · simp at hf
                  rw [this _ _ _ hcs, length_repeatL, hzl]
                refine ⟨.slice (some ⟨w.heap.size, 0, none⟩) len len, _, _, .inl ?_, h2, h1, ?_, fun b hb => (Ren.addLoc_dom hb).imp id fun e => ⟨e, _, rfl⟩⟩
                · have hp : (parts.map fun (x : Nat × Operand) => (x.1, a.eval x.2)).toList = parts.toList.map fun p => (p.1, a.eval p.2) := by simp
                  simp only [execOp, Instr.buildSlice, Sem.run_bind, run_underlying hu.1, Result.andThen_ok, run_sizeT hu.2, if_neg hlim]
                  simp only [if_neg (hmulz hl0), Sem.run_bind, run_zero hi hzv, Sem.run_pure, Result.andThen_ok]
                  have hy1' : Instr.fill (fun i => some (i * n, n)) (Array.map (fun x => zv.cells[x % zv.cells.size]!) (Array.range (len * n))) (parts.map fun (x : Nat × Operand) => (x.1, a.eval x.2)).toList = some ys := by
                    rw [hp, hzvl]; exact hy1
                  rw [hy1']
                  simp [newRow]
                · exact .slice (Ren.addLoc_self _ _ _ _) (Nat.zero_le _) (by simp; omega) (Nat.le_refl _) (by simp) (by simp)
              · simp at h
            · simp at h
        · simp at hc
      · simp at hc
    · simp at hc
  | makeMap t r =>
    cases r <;> simp only [cOp, reduceCtorEq] at hc
    split at hc
    · split at hc
      · simp only [Option.some.injEq] at hc; subst hc
        simp only [evalOp, Option.some.injEq, Prod.mk.injEq] at h
        obtain ⟨rfl, rfl⟩ := h
        refine ⟨.inr ⟨_, rfl⟩, fun hrel hb hm hg hk => ?_⟩
        rename_i g g' w
        obtain ⟨h1, h2⟩ := hrel.newMap hb hm (hg _ rfl) hk
        refine ⟨.map (some w.heap.size), _, _, .inl ?_, h2, h1, .map (by simp [Ren.addMp]), fun b hb => (Ren.addMp_dom hb).imp id fun e => ⟨e, _, rfl⟩⟩
        simp [execOp, Instr.makeMap]
      · simp at hc
    · simp at hc
  | makeSlice t l c =>
    simp only [cOp] at hc
    split at hc
    · rename_i el n hel
      split at hc
      · rename_i z bs l1 c1 hz hbs hl hcc
        split at hc
        · rename_i hcond
          simp only [Option.some.injEq] at hc; subst hc
          have hu := elemSlice_ok hel
          obtain ⟨i, zv, hi, hzv, hrz⟩ := zeroT_ok (R := R) hz
          obtain ⟨i2, hi2, hib⟩ := bytesT_ok hbs
          rw [hi] at hi2
          simp only [Option.some.injEq] at hi2; subst hi2
          simp only [Bool.and_eq_true, decide_eq_true_eq, beq_iff_eq] at hcond
          obtain ⟨hn0, hzl⟩ := hcond
          have hzvl : zv.cells.size = n := by
            have := hrz.length
            simp at this; omega
          have rl := opd_ok hl hE
          have rc := opd_ok hcc hE
          simp only [evalOp] at h
          split at h
          · rename_i k1 lv k2 cv hlv hcv
            rw [hlv] at rl
            rw [hcv] at rc
            cases hla : a.eval l <;> rw [hla] at rl <;> cases rl
            cases hca : a.eval c <;> rw [hca] at rc <;> cases rc
            split at h
            · rename_i hcnd
              obtain ⟨hl0, rfl, hc40, hc47, hzone, _⟩ := hcnd
              have hw := wrap_small hl0 hc40
              have hrun : ∀ w, (execOp a.eval ⟨dst, .makeSlice t l c, ty, pos, after, guard⟩).run P w =
                  .ok (.value (.slice (some ⟨w.heap.size, 0, none⟩) lv.toNat lv.toNat)) (w.alloc (.cells (if lv.toNat * n = 0 then #[] else (Array.range (lv.toNat * n)).map (zv.cells[· % zv.cells.size]!)) el)) := by
                intro w
                have hlarge : ¬ ((i.bytes : Int) * lv > 2 ^ 48) := by
                  have : (lv * (bs : Int)) ≤ 2 ^ 47 := hc47
                  rw [hib, Int.mul_comm]; omega
                have hneg : ¬ lv < 0 := by omega
                have hgt : ¬ lv > lv := by omega
                simp only [execOp, Instr.makeSlice, Sem.run_bind, run_underlying hu.1, Result.andThen_ok, hla, hca, asInt, asIntOf, Sem.run_pure, run_infoT hi, hw]
                simp only [decide_eq_false hneg, decide_eq_false hlarge, decide_eq_false hgt, Bool.or_false, Bool.false_eq_true, if_false, Sem.run_bind, run_askRoom, Result.andThen_ok, run_sizeT hu.2]
                by_cases h0 : lv.toNat * n = 0
                · simp only [h0, if_true, Sem.run_pure, Result.andThen_ok, newRow, Sem.run_bind, run_newObj]
                  have : (Array.range 0).map (fun x => (#[] : Array Value)[x % (#[] : Array Value).size]!) = #[] := Array.eq_empty_of_size_eq_zero (by simp)
                  rw [this]
                  rfl
                · simp only [h0, if_false, Sem.run_pure, Result.andThen_ok, newRow, Sem.run_bind, run_newObj, run_zero hi hzv]
                  rfl
              by_cases hl1 : lv = 0
              · subst hl1
                simp only [if_true, Option.some.injEq, Prod.mk.injEq] at h
                obtain ⟨rfl, rfl⟩ := h
                refine ⟨.inl rfl, fun hrel hb hm hg hk => ?_⟩
                rename_i g g' w
                obtain ⟨h1, h2⟩ := hrel.junk (.cells (if (0 : Int).toNat * n = 0 then #[] else (Array.range ((0 : Int).toNat * n)).map (zv.cells[· % zv.cells.size]!)) el)
                exact ⟨_, _, _, .inl (hrun w), h2, h1.congr (same_named hb hm hk), .emp0, fun b hb => .inl hb⟩
              · rw [if_neg hl1] at h
                simp only [Option.some.injEq, Prod.mk.injEq] at h
                obtain ⟨rfl, rfl⟩ := h
                have hne : ¬ lv.toNat * n = 0 := by
                  intro h0
                  rcases Nat.mul_eq_zero.1 h0 with h1 | h1 <;> omega
                refine ⟨.inr ⟨_, rfl⟩, fun hrel hb hm hg hk => ?_⟩
                rename_i g g' w
                have hrep := repeat_ok hrz lv.toNat
                rw [hzvl] at hrep
                obtain ⟨h1, h2⟩ := hrel.allocRow (t := el) hb hm (hg _ rfl) hk (all_repeatL hzone _) hrep
                refine ⟨.slice (some ⟨w.heap.size, 0, none⟩) lv.toNat lv.toNat, _, _, .inl ?_, h2, h1, ?_, fun b hb => (Ren.addLoc_dom hb).imp id fun e => ⟨e, _, rfl⟩⟩
                · rw [hrun w]
                  rw [if_neg hne, hzvl]
                · exact .slice (Ren.addLoc_self _ _ _ _) (Nat.zero_le _) (by simp [length_repeatL, hzl]) (Nat.le_refl _) (by simp) (by simp)
            · simp at h
          · simp at h
        · simp at hc
      · simp at hc
    · simp at hc
  | _ =>
    have := notAlloc hc rfl
    rw [hp] at this
    simp at this
end
end Go.PE
