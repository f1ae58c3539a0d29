/- The operations that only compute: one law for all of them. Nothing of a program stands here. -/
import Derived.Test.YtbpkjhamidpoeaaGreatDoorE8
namespace Go.PE

section
variable {P : Program} {R : Ren}

theorem eqlOp (op : BinOp) : (op = .eql ∨ op = .neq) ∨ (op ≠ .eql ∧ op ≠ .neq) := by
  cases op <;> simp

theorem cEq_cases {neg : Bool} {t : TypeId} {x y : Operand} {a b : Opd} {eo : EOp} (h : cEq P neg t x y a b = some eo) :
    ∃ ek, eo = .eq neg ek a b ∧ (match ek with
      | .leaf .bool => P.underlying t = some .bool
      | .leaf .int => True
      | .leaf .str => True
      | .agg ks => P.eqGuardType P.depth t = false ∧ leafsT P eqDepth t = some ks ∧ aggT P t = true
      | .nilR k => ∃ d, P.underlying t = some d ∧ nkOf d = some k ∧ isNilConst k y = true
      | .nilL k => ∃ d, P.underlying t = some d ∧ nkOf d = some k ∧ isNilConst k x = true) := by
  unfold cEq at h
  split at h
  · rename_i hu; simp only [Option.some.injEq] at h; exact ⟨_, h.symm, hu⟩
  · simp only [Option.some.injEq] at h; exact ⟨_, h.symm, trivial⟩
  · simp only [Option.some.injEq] at h; exact ⟨_, h.symm, trivial⟩
  · rename_i hu
    split at h
    · simp at h
    · rename_i hg
      rw [Option.map_eq_some_iff] at h
      obtain ⟨ks, hk, rfl⟩ := h
      exact ⟨_, rfl, by simpa using hg, hk, by simp [aggT, hu]⟩
  · rename_i hu
    split at h
    · simp at h
    · rename_i hg
      rw [Option.map_eq_some_iff] at h
      obtain ⟨ks, hk, rfl⟩ := h
      exact ⟨_, rfl, by simpa using hg, hk, by simp [aggT, hu]⟩
  · rename_i d _ _ _ _ _ hu
    split at h
    · rename_i k hk
      split at h
      · rename_i hn
        simp only [Option.some.injEq] at h
        exact ⟨_, h.symm, d, hu, hk, hn⟩
      · split at h
        · rename_i hn
          simp only [Option.some.injEq] at h
          exact ⟨_, h.symm, d, hu, hk, hn⟩
        · simp at h
    · simp at h
  · simp at h

theorem eq_op_ok {op : BinOp} (hop : op = .eql ∨ op = .neq) {t : TypeId} {x y : Operand} {eo : EOp} (hc : cBin P op t x y = some eo) {e : Env} {a : Act} (hE : VRL R e a.tmps.toList) {X : Ctx} {H H' : Heap} {v : V}
    (h : evalOp X e H eo = some (v, H')) : H' = H ∧ ∃ v', (∀ w, (do eqGuard op t x y (a.eval x) (a.eval y); binOp op t (a.eval x) (a.eval y) : Sem Value).run P w = .ok v' w) ∧ VR R v v' := by
  unfold cBin at hc
  split at hc
  case h_2 => simp at hc
  case h_1 =>
      rename_i x1 y1 hx hy
      rw [if_pos hop] at hc
      have rx := opd_ok hx hE
      have ry := opd_ok hy hE
      have main := cEq_cases hc
      obtain ⟨ek, rfl, hek⟩ := main
      simp only [evalOp, pure1, Option.map_eq_some_iff, Prod.mk.injEq] at h
      obtain ⟨b, ⟨r, hr, rfl⟩, rfl, rfl⟩ := h
      refine ⟨rfl, .bool (r != isNeq op), fun w => ?_, .bool _⟩
      cases ek with
      | leaf k =>
        simp only [eqE] at hr
        rcases leaf_ok hr rx ry with ⟨rfl, p, q, e1, e2, rfl⟩ | ⟨rfl, j, p, q, e1, e2, rfl⟩ | ⟨rfl, p, q, e1, e2, rfl⟩
        · rw [e1, e2]
          refine run_eqOp hop x y w ?_ ?_ (run_equalIn_bool' w 9999 t p q hek)
          · rcases hop with rfl | rfl <;> rfl
          · rintro o (rfl | rfl)
            · show (do pure (.bool (← Op.equal t (.bool p) (.bool q))) : Sem Value) = _
              simp [isNeq]
            · show (do pure (.bool (!(← Op.equal t (.bool p) (.bool q)))) : Sem Value) = _
              simp [isNeq]
        · rw [e1, e2]
          rcases hop with rfl | rfl
          · simp [eqGuard, binOp, Op.intCmp, isNeq]
          · simp [eqGuard, binOp, Op.intCmp, isNeq, bne]
        · rw [e1, e2, eqStr_toList]
          rcases hop with rfl | rfl
          · simp [eqGuard, binOp, Op.stringOp, isNeq]
          · simp [eqGuard, binOp, Op.stringOp, isNeq]
      | agg ks =>
        obtain ⟨hg, hl, ha⟩ := hek
        simp only [eqE] at hr
        split at hr
        · rename_i l l' el el'
          rw [el] at rx; rw [el'] at ry
          cases hxx : a.eval x <;> rw [hxx] at rx <;> cases rx
          rename_i xs hxs
          cases hyy : a.eval y <;> rw [hyy] at ry <;> cases ry
          rename_i ys hys
          refine run_eqOp hop x y w (run_eqGuard_agg w op t x y xs ys hg) ?_ ?_
          · rintro o (rfl | rfl)
            · show (do pure (.bool (← Op.equal t (.agg xs) (.agg ys))) : Sem Value) = _
              simp [isNeq]
            · show (do pure (.bool (!(← Op.equal t (.agg xs) (.agg ys)))) : Sem Value) = _
              simp [isNeq]
          · have := equalIn_ok 12 t ks hl 10000 (by omega) l l' xs.toList ys.toList r hxs hys hr w
            simpa [wrapT, ha] using this
        · simp at hr
      | nilR k =>
        obtain ⟨d, hd, hk, hn⟩ := hek
        simp only [eqE] at hr
        have hp := nil_ok hk hn rx hr a
        refine run_eqOp hop x y w ?_ ?_ (run_equalIn_nilR hd hp 9999 w)
        · rcases hp with ⟨e, p, h1, h2, h3, _⟩ | ⟨e, p, n, c, n', c', h1, h2, h3, _⟩ | ⟨k, e, p, h1, h2, h3, _⟩ | ⟨p, q, s, h1, h3, ⟨h2, _⟩ | ⟨f, p, c, h2, _⟩⟩ <;> rw [h2, h3] <;> rcases hop with rfl | rfl <;> rfl
        · rintro o ho
          rcases hp with ⟨e, p, h1, h2, h3, _⟩ | ⟨e, p, n, c, n', c', h1, h2, h3, _⟩ | ⟨k, e, p, h1, h2, h3, _⟩ | ⟨p, q, s, h1, h3, ⟨h2, _⟩ | ⟨f, p, c, h2, _⟩⟩ <;> rw [h2, h3] <;> rcases ho with rfl | rfl <;> simp [binOp, isNeq]
      | nilL k =>
        obtain ⟨d, hd, hk, hn⟩ := hek
        simp only [eqE] at hr
        have hp := nil_ok hk hn ry hr a
        refine run_eqOp hop x y w ?_ ?_ (run_equalIn_nilL hd hp 9999 w)
        · rcases hp with ⟨e, p, h1, h2, h3, _⟩ | ⟨e, p, n, c, n', c', h1, h2, h3, _⟩ | ⟨k, e, p, h1, h2, h3, _⟩ | ⟨p, q, s, h1, h3, ⟨h2, _⟩ | ⟨f, p, c, h2, _⟩⟩ <;> rw [h2, h3] <;> rcases hop with rfl | rfl <;> rfl
        · rintro o ho
          rcases hp with ⟨e, p, h1, h2, h3, _⟩ | ⟨e, p, n, c, n', c', h1, h2, h3, _⟩ | ⟨k, e, p, h1, h2, h3, _⟩ | ⟨p, q, s, h1, h3, ⟨h2, _⟩ | ⟨f, p, c, h2, _⟩⟩ <;> rw [h2, h3] <;> rcases ho with rfl | rfl <;> simp [binOp, isNeq]

theorem boundE_ok {y d n : Nat} {x : Option V} {x' : Option Value} (hx : match x, x' with | none, none => True | some a, some b => VR R a b | _, _ => False) (h : boundE y x d = some n) (code : BoundsCode) :
    (x = none ∧ x' = none ∧ n = d) ∨ (∃ b, x' = some b ∧ n ≤ y ∧ ∀ w, (Instr.sliceBound b y code).run P w = .ok n w) := by
  unfold boundE at h
  split at h
  · cases x' with
    | none => exact .inl ⟨rfl, rfl, by simpa using h.symm⟩
    | some b => simp at hx
  · split at h
    · rename_i i hi
      cases x' with
      | none => simp at hx
      | some b =>
        simp only at hx
        cases hx
        simp only [Option.some.injEq] at h; subst h
        refine .inr ⟨_, rfl, by omega, fun w => ?_⟩
        simp [Instr.sliceBound, asIntOf, hi]
    · simp at h
  · simp at h

/-- The bounds of a slice expression without a third one. -/
theorem bounds_ok {isSlice : Bool} {len cap h l : Nat} {lo hi : Option V} {lo' hi' : Option Value} (hcap : len ≤ cap)
    (hl : match lo, lo' with | none, none => True | some a, some b => VR R a b | _, _ => False) (hh : match hi, hi' with | none, none => True | some a, some b => VR R a b | _, _ => False)
    (e1 : boundE len hi len = some h) (e2 : boundE h lo 0 = some l) : l ≤ h ∧ h ≤ len ∧ ∀ w, (Instr.sliceBounds isSlice len cap lo' hi' none).run P w = .ok (l, h, cap) w := by
  have h1 : h ≤ len ∧ ∀ w, (match hi', (none : Option Value) with
      | some v, some _ => Instr.sliceBound v cap .slice3B
      | some v, none => Instr.sliceBound v cap (if isSlice then .sliceAcap else .sliceAlen)
      | none, none => pure len
      | none, some _ => stuck "Slice: max without high" : Sem Nat).run P w = .ok h w := by
    unfold boundE at e1
    split at e1
    · cases hi' with
      | none => simp only [Option.some.injEq] at e1; subst e1; exact ⟨Nat.le_refl _, fun w => rfl⟩
      | some b => simp at hh
    · split at e1
      · rename_i i hi
        cases hi' with
        | none => simp at hh
        | some b =>
          simp only at hh
          cases hh
          simp only [Option.some.injEq] at e1; subst e1
          refine ⟨by omega, fun w => ?_⟩
          have : 0 ≤ i ∧ i ≤ (cap : Int) := ⟨hi.1, by omega⟩
          simp [Instr.sliceBound, asIntOf, this]
      · simp at e1
    · simp at e1
  have h2 : l ≤ h ∧ ∀ w, (match lo' with
      | some v => Instr.sliceBound v h (if (none : Option Value).isSome then .slice3C else .sliceB)
      | none => pure 0 : Sem Nat).run P w = .ok l w := by
    unfold boundE at e2
    split at e2
    · cases lo' with
      | none => simp only [Option.some.injEq] at e2; subst e2; exact ⟨Nat.zero_le _, fun w => rfl⟩
      | some b => simp at hl
    · split at e2
      · rename_i i hi
        cases lo' with
        | none => simp at hl
        | some b =>
          simp only at hl
          cases hl
          simp only [Option.some.injEq] at e2; subst e2
          refine ⟨by omega, fun w => ?_⟩
          simp [Instr.sliceBound, asIntOf, hi]
      · simp at e2
    · simp at e2
  refine ⟨h2.1, h1.1, fun w => ?_⟩
  have a1 := h1.2 w
  have a2 := h2.2 w
  unfold Instr.sliceBounds
  clear h1 h2 hl hh e1 e2
  cases hi' <;> cases lo' <;> simp only [Sem.run_bind, Sem.run_pure, Result.andThen_ok, Result.ok.injEq, and_true] at a1 a2 ⊢
  · subst a1; subst a2; rfl
  · subst a1; rw [a2]; rfl
  · subst a2; rw [a1]; rfl
  · rw [a1, Result.andThen_ok, a2]; rfl

end
end Go.PE
