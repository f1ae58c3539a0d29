/- How the evaluator's abstract values and heap stand to the model's values and memory: the relation, its monotony, plain lemmas on lists. Nothing of a program stands here. -/
import Derived.Test.YtbpkjhamidpoeaaGreatDoorE2
import Derived.Laws.CopyRow
import Derived.Laws.World
import Derived.Tactics
namespace Go.PE

/-- Where a version of a row lies: abstract cell j (lo ≤ j < hi) is cell j - lo of block r, which has n cells. -/
structure Loc where
  r : Nat
  lo : Nat
  hi : Nat
  n : Nat

structure Ren where
  loc : Nat → Nat → Option Loc
  mp : Nat → Option Nat
  im : Nat → Nat → Option V

mutual
inductive VR (R : Ren) : V → Value → Prop
  | bool (b : Bool) : VR R (.bool b) (.bool b)
  | int (k : IntKind) (n : Int) : VR R (.int k n) (.int k n)
  | str (s : ByteArray) : VR R (.str s) (.string s)
  | ptr {b v off ext : Nat} {L : Loc} : R.loc b v = some L → L.lo ≤ off → off + ext ≤ L.hi → VR R (.ptr b v off ext) (.pointer (some ⟨L.r, off - L.lo, none⟩))
  | nilptr : VR R .nilptr (.pointer none)
  | pptr {l : List V} {r o : Nat} : (∀ j x, l[j]? = some x → R.im r (o + j) = some x) → VR R (.pptr l) (.pointer (some ⟨r, o, none⟩))
  | slice {b v off len es c : Nat} {cap : Option Nat} {L : Loc} : R.loc b v = some L → L.lo ≤ off → off + len * es ≤ L.hi → len ≤ c →
      (∀ k, cap = some k → c = k) → (cap = none → off - L.lo + c * es ≤ L.n) →
      VR R (.slice b v off len es cap) (.slice (some ⟨L.r, off - L.lo, none⟩) len c)
  | slice0 {b v off es r o : Nat} {cap : Option Nat} {L : Loc} : R.loc b v = some L → L.lo ≤ off → off ≤ L.hi → (∀ k, cap = some k → k = 0) →
      VR R (.slice b v off 0 es cap) (.slice (some ⟨r, o, none⟩) 0 0)
  | nils : VR R .nils (.slice none 0 0)
  | emp0 {r o : Nat} : VR R .emp0 (.slice (some ⟨r, o, none⟩) 0 0)
  | psl {n r o c : Nat} {l : List V} : (∀ j x, l[j]? = some x → R.im r (o + j) = some x) → n ≤ c → VR R (.psl n l) (.slice (some ⟨r, o, none⟩) n c)
  | map {b r : Nat} : R.mp b = some r → VR R (.map b) (.map (some r))
  | nilmap : VR R .nilmap (.map none)
  | fn {f : FuncId} {a c : List V} {a' c' : Array Value} : VRL R a a'.toList → VRL R c c'.toList → VR R (.fn f a c) (.func (.func f) a' c')
  | nilfn : VR R .nilfn .nilFunc
  | iface {t : TypeId} {v : V} {v' : Value} : VR R v v' → VR R (.iface t v) (.iface t v')
  | nilif : VR R .nilif .nilIface
  | agg {l : List V} {cs : Array Value} : VRL R l cs.toList → VR R (.agg l) (.agg cs)
  | tup {l : List V} {cs : Array Value} : VRL R l cs.toList → VR R (.tup l) (.tuple cs)
inductive VRL (R : Ren) : List V → List Value → Prop
  | nil : VRL R [] []
  | cons {v : V} {x : Value} {l : List V} {xs : List Value} : VR R v x → VRL R l xs → VRL R (v :: l) (x :: xs)
end

/-- The one says all that the other says. -/
structure Ren.Le (R R' : Ren) : Prop where
  loc : ∀ b v L, R.loc b v = some L → R'.loc b v = some L
  mp : ∀ b r, R.mp b = some r → R'.mp b = some r
  im : ∀ r j x, R.im r j = some x → R'.im r j = some x

theorem Ren.Le.refl (R : Ren) : R.Le R := ⟨fun _ _ _ h => h, fun _ _ h => h, fun _ _ _ h => h⟩
theorem Ren.Le.trans {R R' R'' : Ren} (h : R.Le R') (k : R'.Le R'') : R.Le R'' :=
  ⟨fun b v L e => k.loc b v L (h.loc b v L e), fun b r e => k.mp b r (h.mp b r e), fun r j x e => k.im r j x (h.im r j x e)⟩

mutual
theorem VR.mono {R R' : Ren} (h : R.Le R') : ∀ {v : V} {x : Value}, VR R v x → VR R' v x
  | _, _, .bool b => .bool b
  | _, _, .int k n => .int k n
  | _, _, .str s => .str s
  | _, _, .ptr a b c => .ptr (h.loc _ _ _ a) b c
  | _, _, .nilptr => .nilptr
  | _, _, .pptr a => .pptr fun j x e => h.im _ _ _ (a j x e)
  | _, _, .slice a b c d e f => .slice (h.loc _ _ _ a) b c d e f
  | _, _, .slice0 a b c d => .slice0 (h.loc _ _ _ a) b c d
  | _, _, .nils => .nils
  | _, _, .emp0 => .emp0
  | _, _, .psl a b => .psl (fun j x e => h.im _ _ _ (a j x e)) b
  | _, _, .map a => .map (h.mp _ _ a)
  | _, _, .nilmap => .nilmap
  | _, _, .fn a b => .fn (VRL.mono h a) (VRL.mono h b)
  | _, _, .nilfn => .nilfn
  | _, _, .iface a => .iface (VR.mono h a)
  | _, _, .nilif => .nilif
  | _, _, .agg a => .agg (VRL.mono h a)
  | _, _, .tup a => .tup (VRL.mono h a)
theorem VRL.mono {R R' : Ren} (h : R.Le R') : ∀ {l : List V} {xs : List Value}, VRL R l xs → VRL R' l xs
  | _, _, .nil => .nil
  | _, _, .cons a b => .cons (VR.mono h a) (VRL.mono h b)
end

section lists
variable {R : Ren}

theorem VRL.length : ∀ {l : List V} {xs : List Value}, VRL R l xs → l.length = xs.length
  | _, _, .nil => rfl
  | _, _, .cons _ h => by simp [VRL.length h]

theorem VRL.get : ∀ {l : List V} {xs : List Value}, VRL R l xs → ∀ {j : Nat} {v : V}, l[j]? = some v → ∃ x, xs[j]? = some x ∧ VR R v x
  | _, _, .nil, _, _, h => by simp at h
  | _, _, .cons a _, 0, _, h => by simp at h; subst h; exact ⟨_, by simp, a⟩
  | _, _, .cons _ b, j + 1, _, h => by
    simp only [List.getElem?_cons_succ] at h ⊢
    exact VRL.get b h

theorem VRL.getD {l : List V} {xs : List Value} (h : VRL R l xs) (j : Nat) : VR R (l.getD j V.undef) (xs.getD j undef) := by
  by_cases hj : j < l.length
  · obtain ⟨x, hx, hr⟩ := h.get (List.getElem?_eq_getElem hj)
    rw [List.getD_eq_getElem?_getD, List.getElem?_eq_getElem hj, List.getD_eq_getElem?_getD, hx]
    exact hr
  · have hl := h.length
    rw [List.getD_eq_getElem?_getD, List.getElem?_eq_none (by omega), List.getD_eq_getElem?_getD, List.getElem?_eq_none (by omega)]
    exact .tup .nil

theorem VRL.of_get : ∀ {l : List V} {xs : List Value}, l.length = xs.length → (∀ (j : Nat) (v : V), l[j]? = some v → ∃ x, xs[j]? = some x ∧ VR R v x) → VRL R l xs
  | [], [], _, _ => .nil
  | [], _ :: _, h, _ => by simp at h
  | _ :: _, [], h, _ => by simp at h
  | v :: l, x :: xs, h, k => by
    obtain ⟨y, hy, hr⟩ := k 0 v (by simp)
    simp at hy; subst hy
    refine .cons hr (VRL.of_get (by simpa using h) fun j w hw => ?_)
    obtain ⟨y, hy, hr⟩ := k (j + 1) w (by simpa using hw)
    exact ⟨y, by simpa using hy, hr⟩

theorem VRL.append {l m : List V} {xs ys : List Value} (h : VRL R l xs) (k : VRL R m ys) : VRL R (l ++ m) (xs ++ ys) := by
  cases h with
  | nil => exact k
  | cons a b => exact .cons a (VRL.append b k)

theorem VRL.take {l : List V} {xs : List Value} (h : VRL R l xs) (n : Nat) : VRL R (l.take n) (xs.take n) := by
  cases n with
  | zero => simpa using VRL.nil
  | succ n =>
    cases h with
    | nil => simpa using VRL.nil
    | cons a b => exact .cons a (VRL.take b n)

theorem VRL.drop {l : List V} {xs : List Value} (h : VRL R l xs) (n : Nat) : VRL R (l.drop n) (xs.drop n) := by
  cases n with
  | zero => simpa using h
  | succ n =>
    cases h with
    | nil => simpa using VRL.nil
    | cons a b => exact VRL.drop b n

theorem VRL.set {l : List V} {xs : List Value} (h : VRL R l xs) (n : Nat) {v : V} {x : Value} (hv : VR R v x) : VRL R (l.set n v) (xs.set n x) := by
  cases h with
  | nil => simpa using VRL.nil
  | cons a b =>
    cases n with
    | zero => exact .cons hv b
    | succ n => exact .cons a (VRL.set b n hv)

theorem VRL.replicate (n : Nat) {v : V} {x : Value} (hv : VR R v x) : VRL R (List.replicate n v) (List.replicate n x) := by
  induction n with
  | zero => exact .nil
  | succ n ih => exact .cons hv ih

theorem VRL.splice {l cs : List V} {xs ys : List Value} (h : VRL R l xs) (k : VRL R cs ys) (off : Nat) :
    VRL R (PE.splice l off cs) (xs.take off ++ ys ++ xs.drop (off + ys.length)) := by
  unfold PE.splice
  rw [← k.length]
  exact ((h.take off).append k).append (h.drop _)

theorem VRL.map_ev {l : List Opd} {xs : List Operand} {e : Env} {ρ : Operand → Value}
    (h : l.length = xs.length) (k : ∀ (j : Nat) (a : Opd), l[j]? = some a → ∃ x, xs[j]? = some x ∧ VR R (a.ev e) (ρ x)) : VRL R (l.map (Opd.ev e)) (xs.map ρ) := by
  refine VRL.of_get (by simpa using h) fun j v hv => ?_
  rw [List.getElem?_map, Option.map_eq_some_iff] at hv
  obtain ⟨a, ha, rfl⟩ := hv
  obtain ⟨x, hx, hr⟩ := k j a ha
  exact ⟨ρ x, by simp [hx], hr⟩

theorem VR.one {v : V} {x : Value} (h : VR R v x) : x.oneCell' = v.one := by
  cases h <;> rfl

theorem VR.cells {v : V} {x : Value} (h : VR R v x) : VRL R v.cells x.cells.toList := by
  cases h <;> first
    | (rename_i h; exact h)
    | exact .cons (by constructor <;> assumption) .nil

theorem VRL.one {l : List V} {xs : List Value} (h : VRL R l xs) (k : l.all V.one = true) : ∀ x ∈ xs, x.oneCell' = true := by
  cases h with
  | nil => simp
  | cons a b =>
    simp only [List.all_cons, Bool.and_eq_true] at k
    intro x hx
    rcases List.mem_cons.1 hx with rfl | hx
    · rw [a.one]; exact k.1
    · exact VRL.one b k.2 x hx

end lists

end Go.PE
