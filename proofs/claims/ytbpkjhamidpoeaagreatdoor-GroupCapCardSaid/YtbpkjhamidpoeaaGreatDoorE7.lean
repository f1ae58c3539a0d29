/- '==' of plain data: the evaluator's answer is the model's. Nothing of a program stands here. -/
import Derived.Test.YtbpkjhamidpoeaaGreatDoorE6
namespace Go.PE

section
variable {P : Program} {R : Ren}

def wrapT (P : Program) (t : TypeId) (xs : List Value) : Value := if aggT P t then .agg xs.toArray else xs.getD 0 undef

theorem eqLs_length : ∀ {ks : List Leaf} {us vs : List V} {b : Bool}, eqLs ks us vs = some b → us.length = ks.length ∧ vs.length = ks.length
  | [], [], [], _, _ => ⟨rfl, rfl⟩
  | [], _ :: _, _, _, h => by simp [eqLs] at h
  | [], [], _ :: _, _, h => by simp [eqLs] at h
  | _ :: _, [], _, _, h => by simp [eqLs] at h
  | _ :: _, _ :: _, [], _, h => by simp [eqLs] at h
  | k :: ks, u :: us, v :: vs, b, h => by
    unfold eqLs at h
    split at h
    · rename_i x y h1 h2
      have := eqLs_length h2
      simp [this.1, this.2]
    · simp at h

theorem eqLs_append : ∀ {ks ms : List Leaf} {us vs : List V} {b : Bool}, eqLs (ks ++ ms) us vs = some b →
    ∃ b1 b2, eqLs ks (us.take ks.length) (vs.take ks.length) = some b1 ∧ eqLs ms (us.drop ks.length) (vs.drop ks.length) = some b2 ∧ b = (b1 && b2)
  | [], ms, us, vs, b, h => ⟨true, b, by simp [eqLs], by simpa using h, by simp⟩
  | k :: ks, ms, us, vs, b, h => by
    cases us with
    | nil => simp [eqLs] at h
    | cons u us =>
      cases vs with
      | nil => simp [eqLs] at h
      | cons v vs =>
        simp only [List.cons_append, eqLs] at h
        split at h
        · rename_i x y h1 h2
          simp only [Option.some.injEq] at h; subst h
          obtain ⟨b1, b2, e1, e2, rfl⟩ := eqLs_append h2
          refine ⟨x && b1, b2, ?_, by simpa using e2, by simp [Bool.and_assoc]⟩
          simp only [List.length_cons, List.take_succ_cons, eqLs, h1, e1]
        · simp at h

theorem leaf_ok {k : Leaf} {a b : V} {x y : Value} {r : Bool} (h : eqLeaf k a b = some r) (hx : VR R a x) (hy : VR R b y) :
    (k = .bool ∧ ∃ p q, x = .bool p ∧ y = .bool q ∧ r = (p == q)) ∨ (k = .int ∧ ∃ j p q, x = .int j p ∧ y = .int j q ∧ r = (p == q)) ∨
    (k = .str ∧ ∃ p q, x = .string p ∧ y = .string q ∧ r = eqStr p q) := by
  unfold eqLeaf at h
  split at h
  · cases hx; cases hy
    exact .inl ⟨rfl, _, _, rfl, rfl, by simpa using h.symm⟩
  · split at h
    · rename_i hk
      subst hk
      cases hx; cases hy
      exact .inr (.inl ⟨rfl, _, _, _, rfl, rfl, by simpa using h.symm⟩)
    · simp at h
  · cases hx; cases hy
    exact .inr (.inr ⟨rfl, _, _, rfl, rfl, by simpa using h.symm⟩)
  · simp at h

theorem one_of_length {l : List V} {xs : List Value} (h : VRL R l xs) (hl : l.length = 1) : ∃ v x, l = [v] ∧ xs = [x] ∧ VR R v x := by
  cases h with
  | nil => simp at hl
  | cons a b =>
    cases b with
    | nil => exact ⟨_, _, rfl, rfl, a⟩
    | cons _ _ => simp at hl

theorem leafsT_nonagg {d : Nat} {t : TypeId} {ks : List Leaf} (h : leafsT P d t = some ks) (ha : aggT P t = false) : ks.length = 1 ∧ ∃ u, P.underlying t = some u := by
  cases d with
  | zero => simp [leafsT] at h
  | succ d =>
    unfold leafsT at h
    unfold aggT at ha
    cases hu : P.underlying t with
    | none => simp [hu] at h
    | some u =>
      rw [hu] at h ha
      cases u <;> simp at h ha <;> (subst h; exact ⟨rfl, _, rfl⟩)

theorem leafsT_agg {d : Nat} {t : TypeId} {ks : List Leaf} (h : leafsT P d t = some ks) : ∃ u, P.underlying t = some u := by
  cases d with
  | zero => simp [leafsT] at h
  | succ d =>
    unfold leafsT at h
    cases hu : P.underlying t with
    | none => simp [hu] at h
    | some u => exact ⟨u, rfl⟩

/-- A part of a row of cells that has the cells of its type. -/
theorem run_partL {d : Nat} {t : TypeId} {ks : List Leaf} {n off : Nat} (h : leafsT P d t = some ks) (hn : sizeT P t = some n) (hk : ks.length = n) (xs : List Value) (hle : off + n ≤ xs.length) (w : World) :
    (part t xs.toArray off).run P w = .ok (wrapT P t ((xs.drop off).take n)) w := by
  obtain ⟨u, hu⟩ := leafsT_agg h
  unfold wrapT
  cases ha : aggT P t with
  | true =>
    simp [part, run_isAgg hu, ha, run_sizeT hn]
  | false =>
    obtain ⟨h1, _⟩ := leafsT_nonagg h ha
    have h1n : n = 1 := by omega
    subst h1n
    have hx : xs[off]? = some (xs[off]'(by omega)) := List.getElem?_eq_getElem (by omega)
    simp [part, run_isAgg hu, ha, hx, List.getElem?_drop]

theorem run_eqFields {d D : Nat} (ih : ∀ t ks, leafsT P d t = some ks → ∀ us vs xs ys b, VRL R us xs → VRL R vs ys → eqLs ks us vs = some b → ∀ w,
      (Op.equalIn D t (wrapT P t xs) (wrapT P t ys)).run P w = .ok b w) (us vs : List V) (xs ys : List Value) (hx : VRL R us xs) (hy : VRL R vs ys) :
    ∀ (fs : List Field) (off : Nat) (ks : List Leaf), leafsF P (leafsT P d) fs off = some ks → ∀ b, eqLs ks (us.drop off) (vs.drop off) = some b → ∀ w,
      (Op.eqFields D xs.toArray ys.toArray fs).run P w = .ok b w
  | [], off, ks, h, b, hb, w => by
    simp only [leafsF, Option.some.injEq] at h; subst h
    have := eqLs_length hb
    cases hu : us.drop off with
    | cons _ _ => simp [hu] at this
    | nil =>
      cases hv : vs.drop off with
      | cons _ _ => simp [hv] at this
      | nil =>
        rw [hu, hv] at hb
        simp only [eqLs, Option.some.injEq] at hb; subst hb
        rfl
  | f :: fs, off, ks, h, b, hb, w => by
    unfold leafsF at h
    split at h
    · rename_i hc
      simp only [Bool.and_eq_true, bne_iff_ne, ne_eq, beq_iff_eq] at hc
      obtain ⟨hname, hoff⟩ := hc
      split at h
      · rename_i l n hl hn
        split at h
        · rename_i hln0
          obtain ⟨hln, hn0⟩ := hln0
          rw [Option.map_eq_some_iff] at h
          obtain ⟨ms, hms, rfl⟩ := h
          obtain ⟨b1, b2, e1, e2, rfl⟩ := eqLs_append hb
          have hlen := eqLs_length hb
          simp only [List.length_append, List.length_drop] at hlen
          have hxl := hx.length
          have hyl := hy.length
          rw [hln] at e1 e2
          rw [List.drop_drop] at e2
          rw [List.drop_drop] at e2
          have p1 := run_partL hl hn hln xs (off := off) (by omega) w
          have p2 := run_partL hl hn hln ys (off := off) (by omega) w
          have he := ih f.type l hl _ _ _ _ b1 ((hx.drop off).take n) ((hy.drop off).take n) e1 w
          have hrec := run_eqFields ih us vs xs ys hx hy fs (off + n) ms hms b2 e2 w
          simp only [Op.eqFields, ne_eq, hname, not_false_eq_true, if_true, Sem.run_bind, hoff, p1, p2, Result.andThen_ok, he, Sem.run_ite]
          cases b1
          · simp
          · simpa using hrec
        · simp at h
      · simp at h
    · simp at h

/-- The elements of two arrays from the i-th on. -/
def eqElems (D : Nat) (e : TypeId) (xs ys : Array Value) (n : Nat) : Nat → Nat → Sem Bool
  | 0, _ => pure true
  | k + 1, i => do
    let a ← part e xs (i * n)
    let b ← part e ys (i * n)
    let r ← Op.equalIn D e a b
    if (!r) = true then pure false else eqElems D e xs ys n k (i + 1)

theorem run_equalIn_array {D : Nat} {t e : TypeId} {len n : Nat} (ht : P.underlying t = some (.array len e)) (hn : sizeT P e = some n) (xs ys : Array Value) (w : World) :
    (Op.equalIn (D + 1) t (.agg xs) (.agg ys)).run P w = (eqElems D e xs ys n len 0).run P w := by
  simp only [Op.equalIn, Sem.run_bind, run_underlying ht, Result.andThen_ok, run_sizeT hn]
  rw [Std.Legacy.Range.forIn_eq_forIn_range']
  simp only [Std.Legacy.Range.size, Nat.sub_zero, Nat.add_sub_cancel, Nat.div_one]
  have key : ∀ (k i : Nat) (w : World), ((forIn (List.range' i k) (none, PUnit.unit) fun (i : Nat) (_ : Option Bool × PUnit) => (do
        let a ← part e xs (i * n)
        let b ← part e ys (i * n)
        let r ← Op.equalIn D e a b
        if (!r) = true then pure (ForInStep.done (some false, PUnit.unit)) else do pure PUnit.unit; pure (ForInStep.yield (none, PUnit.unit)) : Sem (ForInStep (Option Bool × PUnit)))).run P w).andThen
        (fun (r : Option Bool × PUnit) w' => (match r.1 with | some a => pure a | none => pure true : Sem Bool).run P w') = (eqElems D e xs ys n k i).run P w := by
    intro k
    induction k with
    | zero => intro i w; simp [eqElems]
    | succ k ih =>
      intro i w
      simp only [List.range'_succ, List.forIn_cons, eqElems, Sem.run_bind]
      generalize (part e xs (i * n)).run P w = r1
      cases r1 with
      | halt x w1 => simp [Result.andThen]
      | ok a w1 =>
        simp only [Result.andThen_ok]
        generalize (part e ys (i * n)).run P w1 = r2
        cases r2 with
        | halt x w2 => simp [Result.andThen]
        | ok b w2 =>
          simp only [Result.andThen_ok]
          generalize (Op.equalIn D e a b).run P w2 = r3
          cases r3 with
          | halt x w3 => simp [Result.andThen]
          | ok r w3 =>
            cases r
            · simp
            · simp only [Result.andThen_ok, Bool.not_true, Bool.false_eq_true, if_false, Sem.run_pure, Sem.run_ite]
              exact ih (i + 1) w3
  refine Eq.trans ?_ (key len 0 w)
  congr 1
  funext r w'
  rcases r with ⟨_ | _, _⟩ <;> rfl

theorem run_eqElems {d D : Nat} {e : TypeId} {l : List Leaf} {n : Nat} (hl : leafsT P d e = some l) (hn : sizeT P e = some n) (hln : l.length = n) (h0 : 0 < n)
    (ih : ∀ us vs xs ys b, VRL R us xs → VRL R vs ys → eqLs l us vs = some b → ∀ w, (Op.equalIn D e (wrapT P e xs) (wrapT P e ys)).run P w = .ok b w)
    (us vs : List V) (xs ys : List Value) (hx : VRL R us xs) (hy : VRL R vs ys) :
    ∀ (k i : Nat) (b : Bool), eqLs (repeatK l k) (us.drop (i * n)) (vs.drop (i * n)) = some b → ∀ w, (eqElems D e xs.toArray ys.toArray n k i).run P w = .ok b w
  | 0, i, b, hb, w => by
    have := eqLs_length hb
    simp only [repeatK] at hb this
    cases hu : us.drop (i * n) with
    | cons _ _ => simp [hu] at this
    | nil =>
      cases hv : vs.drop (i * n) with
      | cons _ _ => simp [hv] at this
      | nil =>
        rw [hu, hv] at hb
        simp only [eqLs, Option.some.injEq] at hb; subst hb
        rfl
  | k + 1, i, b, hb, w => by
    simp only [repeatK] at hb
    obtain ⟨b1, b2, e1, e2, rfl⟩ := eqLs_append hb
    have hlen := eqLs_length hb
    simp only [List.length_append, List.length_drop] at hlen
    have hxl := hx.length
    have hyl := hy.length
    rw [hln] at e1 e2
    rw [List.drop_drop, List.drop_drop, show i * n + n = (i + 1) * n from by rw [Nat.add_mul, Nat.one_mul]] at e2
    have p1 := run_partL hl hn hln xs (off := i * n) (by omega) w
    have p2 := run_partL hl hn hln ys (off := i * n) (by omega) w
    have he := ih _ _ _ _ b1 ((hx.drop (i * n)).take n) ((hy.drop (i * n)).take n) e1 w
    have hrec := run_eqElems hl hn hln h0 ih us vs xs ys hx hy k (i + 1) b2 e2 w
    simp only [eqElems, Sem.run_bind, p1, p2, Result.andThen_ok, he, Sem.run_ite]
    cases b1
    · simp
    · simpa using hrec

theorem equalIn_ok : ∀ (d : Nat) (t : TypeId) (ks : List Leaf), leafsT P d t = some ks → ∀ D, d ≤ D → ∀ us vs xs ys b, VRL R us xs → VRL R vs ys → eqLs ks us vs = some b → ∀ w,
      (Op.equalIn D t (wrapT P t xs) (wrapT P t ys)).run P w = .ok b w
  | 0, t, ks, h, _, _, _, _, _, _, _, _, _, _, _ => by simp [leafsT] at h
  | d + 1, t, ks, h, 0, hD, _, _, _, _, _, _, _, _, _ => by omega
  | d + 1, t, ks, h, D + 1, hD, us, vs, xs, ys, b, hx, hy, hb, w => by
    have h' := h
    unfold leafsT at h
    cases hu : P.underlying t with
    | none => simp [hu] at h
    | some u =>
      rw [hu] at h
      have hlen := eqLs_length hb
      have leafc : aggT P t = false → ks.length = 1 → ∃ a b' x y, us = [a] ∧ vs = [b'] ∧ xs = [x] ∧ ys = [y] ∧ VR R a x ∧ VR R b' y ∧ wrapT P t xs = x ∧ wrapT P t ys = y := by
        intro ha h1
        obtain ⟨a, x, rfl, rfl, ra⟩ := one_of_length hx (by omega)
        obtain ⟨b', y, rfl, rfl, rb⟩ := one_of_length hy (by omega)
        exact ⟨a, b', x, y, rfl, rfl, rfl, rfl, ra, rb, by simp [wrapT, ha], by simp [wrapT, ha]⟩
      cases u <;> simp only [reduceCtorEq, Option.some.injEq] at h
      case bool =>
        subst h
        obtain ⟨a, b', x, y, rfl, rfl, rfl, rfl, ra, rb, e1, e2⟩ := leafc (by simp [aggT, hu]) rfl
        rw [e1, e2]
        simp only [eqLs] at hb
        split at hb
        · rename_i p q hp hq
          simp only [Option.some.injEq] at hq hb; subst hq; subst hb
          rcases leaf_ok hp ra rb with ⟨_, p, q, rfl, rfl, rfl⟩ | ⟨hk, _⟩ | ⟨hk, _⟩
          · simpa using run_equalIn_bool' w D t p q hu
          · simp at hk
          · simp at hk
        · simp at hb
      case int k =>
        subst h
        obtain ⟨a, b', x, y, rfl, rfl, rfl, rfl, ra, rb, e1, e2⟩ := leafc (by simp [aggT, hu]) rfl
        rw [e1, e2]
        simp only [eqLs] at hb
        split at hb
        · rename_i p q hp hq
          simp only [Option.some.injEq] at hq hb; subst hq; subst hb
          rcases leaf_ok hp ra rb with ⟨hk, _⟩ | ⟨_, j, p, q, rfl, rfl, rfl⟩ | ⟨hk, _⟩
          · simp at hk
          · simpa using run_equalIn_int w D t j k p q hu
          · simp at hk
        · simp at hb
      case string =>
        subst h
        obtain ⟨a, b', x, y, rfl, rfl, rfl, rfl, ra, rb, e1, e2⟩ := leafc (by simp [aggT, hu]) rfl
        rw [e1, e2]
        simp only [eqLs] at hb
        split at hb
        · rename_i p q hp hq
          simp only [Option.some.injEq] at hq hb; subst hq; subst hb
          rcases leaf_ok hp ra rb with ⟨hk, _⟩ | ⟨hk, _⟩ | ⟨_, p, q, rfl, rfl, rfl⟩
          · simp at hk
          · simp at hk
          · rw [run_equalIn_string w D t p q hu, eqStr_toList]; simp
        · simp at hb
      case array len e =>
        split at h
        · rename_i l s hl hs
          split at h
          · rename_i hln
            simp only [Option.some.injEq] at h; subst h
            have ha : aggT P t = true := by simp [aggT, hu]
            simp only [wrapT, ha, if_true]
            rw [run_equalIn_array hu hs]
            exact run_eqElems hl hs hln.1 hln.2 (fun us vs xs ys b h1 h2 h3 w => equalIn_ok d e l hl D (by omega) us vs xs ys b h1 h2 h3 w) us vs xs ys hx hy len 0 b (by simpa using hb) w
          · simp at h
        · simp at h
      case struct fs =>
        split at h
        · simp at h
        · rename_i hst
          have ha : aggT P t = true := by simp [aggT, hu]
          simp only [wrapT, ha, if_true]
          have hf : P.fieldsOf t = fs := by simp [Program.fieldsOf, hu]
          rw [run_equalIn_struct w D t _ _ (by rw [hf, hu]) (by simpa using hst), hf]
          exact run_eqFields (d := d) (fun t ks h us vs xs ys b h1 h2 h3 w => equalIn_ok d t ks h D (by omega) us vs xs ys b h1 h2 h3 w) us vs xs ys hx hy fs.toList 0 ks h b (by simpa using hb) w

end
end Go.PE
