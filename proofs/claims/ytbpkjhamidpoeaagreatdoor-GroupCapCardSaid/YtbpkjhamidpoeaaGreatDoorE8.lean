/- The operations that only compute, as the compiler lays them. Nothing of a program stands here. -/
import Derived.Test.YtbpkjhamidpoeaaGreatDoorE7
namespace Go.PE

def EOp.isPure : EOp → Bool
  | .move _ | .pick .. | .build .. | .nilc _ | .bin .. | .eq .. | .un .. | .conv .. | .mkIface .. | .mkFn .. | .slice .. | .subs .. | .strId .. | .sliceArr .. | .fieldAddr .. | .field .. | .indexAddrArr .. | .indexAddrSl ..
  | .index .. | .extract .. | .len .. | .lenArr _ | .minmax .. => true
  | _ => false

section
variable {P : Program} {R : Ren}

/-- In whatever world: the operation gives a value that stands for v, and turns nothing. -/
def PureRun (P : Program) (R : Ren) (s : Sem Next) (v : V) : Prop := ∃ v', (∀ w, s.run P w = .ok (.value v') w) ∧ VR R v v'

theorem PureRun.of {s : Sem Value} {v : V} {v' : Value} (h : ∀ w, s.run P w = .ok v' w) (hv : VR R v v') : PureRun P R (do pure (.value (← s))) v :=
  ⟨v', fun w => by simp [h w], hv⟩

theorem bin_ok {op : BinOp} {t : TypeId} {x y : V} {x' y' : Value} {a b : Operand} {v : V} (hx : VR R x x') (hy : VR R y y') (hop : op ≠ .eql ∧ op ≠ .neq)
    (h : binE op x y = some v) : ∃ v', (∀ w, (do eqGuard op t a b x' y'; binOp op t x' y' : Sem Value).run P w = .ok v' w) ∧ VR R v v' := by
  have hg : ∀ w, (eqGuard op t a b x' y').run P w = .ok () w := by
    intro w
    cases op <;> first | rfl | (exfalso; simp at hop)
  unfold binE at h
  split at h
  · rename_i k p k' q
    cases hx; cases hy
    split at h
    · rename_i hs
      obtain ⟨v', h1, h2⟩ := shift_ok (P := P) (R := R) (k' := k') h
      refine ⟨v', fun w => ?_, h2⟩
      simp only [Sem.run_bind, hg, Result.andThen_ok]
      rcases hs with rfl | rfl <;> exact h1 w
    · rename_i hs
      split at h
      · rename_i hk
        subst hk
        obtain ⟨v', h1, h2⟩ := arith_ok (P := P) (R := R) h
        refine ⟨v', fun w => ?_, h2⟩
        simp only [Sem.run_bind, hg, Result.andThen_ok]
        have := h1 w
        cases op <;> first | (exfalso; simp at hs; done) | (simpa [binOp] using this)
      · simp at h
  · cases hx; cases hy
    obtain ⟨v', h1, h2⟩ := str_ok (P := P) (R := R) h
    refine ⟨v', fun w => ?_, h2⟩
    simp only [Sem.run_bind, hg, Result.andThen_ok]
    have := h1 w
    cases op <;> first | (exfalso; simp at hop; done) | (simpa [binOp] using this)
  · simp at h

/-- One side can be nil, the other is nil. -/
def NilPair (d : TypeDesc) (x y : Value) (r : Bool) : Prop :=
  (∃ e a, d = .pointer e ∧ x = .pointer a ∧ y = .pointer none ∧ r = a.isNone) ∨ (∃ e a n c n' c', d = .slice e ∧ x = .slice a n c ∧ y = .slice none n' c' ∧ r = a.isNone) ∨
  (∃ k e a, d = .map k e ∧ x = .map a ∧ y = .map none ∧ r = a.isNone) ∨ (∃ p q s, d = .func p q s ∧ y = .nilFunc ∧ ((x = .nilFunc ∧ r = true) ∨ ∃ f a c, x = .func f a c ∧ r = false))

theorem nil_ok {d : TypeDesc} {k : NK} (hd : nkOf d = some k) {y : Operand} (hy : isNilConst k y = true) {x : V} {x' : Value} (hx : VR R x x') {r : Bool} (h : isNilE k x = some r) (a : Act) :
    NilPair d x' (a.eval y) r := by
  cases k
  · cases d <;> simp only [nkOf, reduceCtorEq, Option.some.injEq] at hd
    unfold isNilConst at hy
    split at hy <;> simp only [reduceCtorEq, Bool.false_eq_true] at *
    refine .inl ?_
    cases hx <;> simp only [isNilE, Option.some.injEq, reduceCtorEq] at h <;> subst h <;> exact ⟨_, _, rfl, rfl, rfl, rfl⟩
  · cases d <;> simp only [nkOf, reduceCtorEq, Option.some.injEq] at hd
    unfold isNilConst at hy
    split at hy <;> simp only [reduceCtorEq, Bool.false_eq_true] at *
    refine .inr (.inl ?_)
    cases hx <;> simp only [isNilE, Option.some.injEq, reduceCtorEq] at h <;> subst h <;> exact ⟨_, _, _, _, _, _, rfl, rfl, rfl, rfl⟩
  · cases d <;> simp only [nkOf, reduceCtorEq, Option.some.injEq] at hd
    unfold isNilConst at hy
    split at hy <;> simp only [reduceCtorEq, Bool.false_eq_true] at *
    refine .inr (.inr (.inl ?_))
    cases hx <;> simp only [isNilE, Option.some.injEq, reduceCtorEq] at h <;> subst h <;> exact ⟨_, _, _, rfl, rfl, rfl, rfl⟩
  · cases d <;> simp only [nkOf, reduceCtorEq, Option.some.injEq] at hd
    unfold isNilConst at hy
    split at hy <;> simp only [reduceCtorEq, Bool.false_eq_true] at *
    refine .inr (.inr (.inr ?_))
    cases hx <;> simp only [isNilE, Option.some.injEq, reduceCtorEq] at h <;> subst h
    · exact ⟨_, _, _, rfl, rfl, .inr ⟨_, _, _, rfl, rfl⟩⟩
    · exact ⟨_, _, _, rfl, rfl, .inl ⟨rfl, rfl⟩⟩

theorem run_equalIn_nilR {t : TypeId} {d : TypeDesc} (hd : P.underlying t = some d) {x y : Value} {r : Bool} (h : NilPair d x y r) (D : Nat) (w : World) :
    (Op.equalIn (D + 1) t x y).run P w = .ok r w := by
  rcases h with ⟨e, p, rfl, rfl, rfl, rfl⟩ | ⟨e, p, n, c, n', c', rfl, rfl, rfl, rfl⟩ | ⟨k, e, p, rfl, rfl, rfl, rfl⟩ | ⟨p, q, s, rfl, rfl, ⟨rfl, rfl⟩ | ⟨f, p, c, rfl, rfl⟩⟩
  all_goals first
    | (simp only [Op.equalIn, Sem.run_bind, run_underlying hd, Result.andThen_ok]; rfl)
    | (cases p <;> (simp only [Op.equalIn, Sem.run_bind, run_underlying hd, Result.andThen_ok]; rfl))

theorem run_equalIn_nilL {t : TypeId} {d : TypeDesc} (hd : P.underlying t = some d) {x y : Value} {r : Bool} (h : NilPair d x y r) (D : Nat) (w : World) :
    (Op.equalIn (D + 1) t y x).run P w = .ok r w := by
  rcases h with ⟨e, p, rfl, rfl, rfl, rfl⟩ | ⟨e, p, n, c, n', c', rfl, rfl, rfl, rfl⟩ | ⟨k, e, p, rfl, rfl, rfl, rfl⟩ | ⟨p, q, s, rfl, rfl, ⟨rfl, rfl⟩ | ⟨f, p, c, rfl, rfl⟩⟩
  all_goals first
    | (simp only [Op.equalIn, Sem.run_bind, run_underlying hd, Result.andThen_ok]; rfl)
    | (cases p <;> (simp only [Op.equalIn, Sem.run_bind, run_underlying hd, Result.andThen_ok]; rfl))

/-- '==' and '!=' where the model asks 'equalIn'. -/
theorem run_eqOp {op : BinOp} (hop : op = .eql ∨ op = .neq) {t : TypeId} {x y : Value} {r : Bool} (a b : Operand) (w : World)
    (hg : (eqGuard op t a b x y).run P w = .ok () w) (hb : ∀ o, o = .eql ∨ o = .neq → binOp o t x y = (do let z ← Op.equal t x y; pure (.bool (z != isNeq o))))
    (h : (Op.equalIn 10000 t x y).run P w = .ok r w) : (do eqGuard op t a b x y; binOp op t x y : Sem Value).run P w = .ok (.bool (r != isNeq op)) w := by
  have he : (Op.equal t x y).run P w = .ok r w := h
  rw [Sem.run_bind, hg, Result.andThen_ok, hb op hop, Sem.run_bind, he]
  rfl

end
end Go.PE
