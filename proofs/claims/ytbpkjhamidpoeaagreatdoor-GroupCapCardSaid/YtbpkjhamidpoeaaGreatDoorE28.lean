/- The evaluator over tries, staged: each piece of code is turned into a function once, and the kernel keeps it. Nothing of a program stands here. -/
import Derived.Test.YtbpkjhamidpoeaaGreatDoorE27
namespace Go.PE

structure Fx (α : Type) where
  run : α

noncomputable def lt2 (t : Tr V) : Tr V := Tr.rec .nil (fun _ => .nil) (fun l _ _ _ => l) t
noncomputable def rt2 (t : Tr V) : Tr V := Tr.rec .nil (fun _ => .nil) (fun _ r _ _ => r) t
noncomputable def lf2 (t : Tr V) : V := Tr.rec V.undef (fun x => x) (fun _ _ _ _ => V.undef) t

noncomputable def gp (d : Nat) : Nat → Fx (Tr V → V) := Nat.rec (motive := fun _ => Nat → Fx (Tr V → V)) (fun _ => ⟨lf2⟩)
  (fun _ ih n => Bool.rec ⟨fun t => (ih (Nat.div n 2)).run (rt2 t)⟩ ⟨fun t => (ih (Nat.div n 2)).run (lt2 t)⟩ (Nat.beq (Nat.mod n 2) 0)) d

noncomputable def sp (d : Nat) : Nat → Fx (Tr V → V → Tr V) := Nat.rec (motive := fun _ => Nat → Fx (Tr V → V → Tr V)) (fun _ => ⟨fun _ x => .leaf x⟩)
  (fun _ ih n => Bool.rec
    ⟨fun t x => Tr.rec (.node .nil ((ih (Nat.div n 2)).run .nil x)) (fun _ => .nil) (fun l r _ _ => .node l ((ih (Nat.div n 2)).run r x)) t⟩
    ⟨fun t x => Tr.rec (.node ((ih (Nat.div n 2)).run .nil x) .nil) (fun _ => .nil) (fun l r _ _ => .node ((ih (Nat.div n 2)).run l x) r) t⟩
    (Nat.beq (Nat.mod n 2) 0)) d

theorem beq_mod (n : Nat) : (n % 2 = 0 ∧ Nat.beq (Nat.mod n 2) 0 = true) ∨ (¬ n % 2 = 0 ∧ Nat.beq (Nat.mod n 2) 0 = false) := by
  by_cases h : n % 2 = 0
  · exact .inl ⟨h, by show Nat.beq (n % 2) 0 = true; rw [h]; rfl⟩
  · refine .inr ⟨h, ?_⟩
    show Nat.beq (n % 2) 0 = false
    cases hb : Nat.beq (n % 2) 0 with
    | false => rfl
    | true => exact absurd (Nat.eq_of_beq_eq_true hb) h

theorem gp_ok : ∀ (d : Nat) {t : Tr V} (n : Nat), Tr.Wf d t → (gp d n).run t = (t.get n).getD V.undef
  | 0, t, n, h => by
    cases h <;> rfl
  | d + 1, t, n, h => by
    rw [Tr.get_of_wf h]
    show (Bool.rec (motive := fun _ => Fx (Tr V → V)) ⟨fun t => (gp d (Nat.div n 2)).run (rt2 t)⟩ ⟨fun t => (gp d (Nat.div n 2)).run (lt2 t)⟩ (Nat.beq (Nat.mod n 2) 0)).run t = _
    rcases beq_mod n with ⟨h1, h2⟩ | ⟨h1, h2⟩
    · rw [h2, if_pos h1]
      exact gp_ok d _ h.lt
    · rw [h2, if_neg h1]
      exact gp_ok d _ h.rt

theorem sp_ok : ∀ (d : Nat) {t : Tr V} (n : Nat) (x : V), Tr.Wf d t → (sp d n).run t x = Tr.set d t n x
  | 0, t, n, x, h => rfl
  | d + 1, t, n, x, h => by
    rw [Tr.set_succ]
    show (Bool.rec (motive := fun _ => Fx (Tr V → V → Tr V))
      ⟨fun t x => Tr.rec (.node .nil ((sp d (Nat.div n 2)).run .nil x)) (fun _ => .nil) (fun l r _ _ => .node l ((sp d (Nat.div n 2)).run r x)) t⟩
      ⟨fun t x => Tr.rec (.node ((sp d (Nat.div n 2)).run .nil x) .nil) (fun _ => .nil) (fun l r _ _ => .node ((sp d (Nat.div n 2)).run l x) r) t⟩
      (Nat.beq (Nat.mod n 2) 0)).run t x = _
    rcases beq_mod n with ⟨h1, h2⟩ | ⟨h1, h2⟩
    · rw [h2, if_pos h1]
      cases h with
      | nil => exact congrArg (fun y => Tr.node y .nil) (sp_ok d _ x (.nil d))
      | node a b => exact congrArg (fun y => Tr.node y _) (sp_ok d _ x a)
    · rw [h2, if_neg h1]
      cases h with
      | nil => exact congrArg (fun y => Tr.node .nil y) (sp_ok d _ x (.nil d))
      | node a b => exact congrArg (fun y => Tr.node _ y) (sp_ok d _ x b)

noncomputable def rd (N d : Nat) (x : Opd) : Fx (Tr V → V) :=
  Opd.rec (fun n => Bool.rec ⟨fun _ => V.undef⟩ (gp d n) (Nat.blt n N)) (fun v => ⟨fun _ => v⟩) x

theorem rd_ok {N d : Nat} {t : Tr V} {e : Env} (h : EIs N d t e) (x : Opd) : (rd N d x).run t = Opd.ev e x := by
  cases x with
  | c v => rfl
  | t n =>
    show (Bool.rec (motive := fun _ => Fx (Tr V → V)) ⟨fun _ => V.undef⟩ (gp d n) (Nat.blt n N)).run t = e.getD n V.undef
    by_cases hn : n < N
    · rw [blt_true hn]
      show (gp d n).run t = _
      rw [gp_ok d n h.wf]; exact h.get n hn
    · rw [blt_false hn, List.getD_eq_getElem?_getD, List.getElem?_eq_none (by have := h.len; omega)]; rfl

theorem rd_fun {N d : Nat} {t : Tr V} {e : Env} (h : EIs N d t e) : (fun x => (rd N d x).run t) = Opd.ev e := funext (rd_ok h)

noncomputable def pt (N d : Nat) (dst : Option Nat) : Fx (Tr V → V → Tr V) :=
  Option.rec ⟨fun t _ => t⟩ (fun k => Bool.rec ⟨fun t _ => t⟩ (sp d k) (Nat.blt k N)) dst

theorem pt_ok {N d : Nat} {t : Tr V} {e : Env} (h : EIs N d t e) (dst : Option Nat) (v : V) : EIs N d ((pt N d dst).run t v) (e.put dst v) := by
  have := h.put dst v
  cases dst with
  | none => exact h
  | some k =>
    show EIs N d ((Bool.rec (motive := fun _ => Fx (Tr V → V → Tr V)) ⟨fun t _ => t⟩ (sp d k) (Nat.blt k N)).run t v) _
    simp only [putK] at this
    by_cases hk : k < N
    · rw [blt_true hk] at this ⊢
      show EIs N d ((sp d k).run t v) _
      rw [sp_ok d k v h.wf]; exact this
    · rw [blt_false hk] at this ⊢
      exact this

/-! ### values, taken apart at small cost -/

noncomputable def V.onInt (α : Type) (v : V) : (IntKind → Int → Option α) → Option α :=
  V.rec (motive_1 := fun _ => (IntKind → Int → Option α) → Option α) (motive_2 := fun _ => Unit) (fun _ _ => none) (fun k n c => c k n) (fun _ _ => none) (fun _ _ _ _ _ => none) (fun _ => none) (fun _ _ _ => none)
    (fun _ _ _ _ _ _ _ => none) (fun _ => none) (fun _ => none) (fun _ _ _ _ => none) (fun _ _ => none) (fun _ => none) (fun _ _ _ _ _ _ => none) (fun _ => none) (fun _ _ _ _ => none) (fun _ => none) (fun _ _ _ => none) (fun _ _ _ => none)
    () (fun _ _ _ _ => ()) v

noncomputable def V.onPtr (α : Type) (v : V) : (Nat → Nat → Nat → Nat → Option α) → Option α :=
  V.rec (motive_1 := fun _ => (Nat → Nat → Nat → Nat → Option α) → Option α) (motive_2 := fun _ => Unit) (fun _ _ => none) (fun _ _ _ => none) (fun _ _ => none) (fun b v o e c => c b v o e) (fun _ => none) (fun _ _ _ => none)
    (fun _ _ _ _ _ _ _ => none) (fun _ => none) (fun _ => none) (fun _ _ _ _ => none) (fun _ _ => none) (fun _ => none) (fun _ _ _ _ _ _ => none) (fun _ => none) (fun _ _ _ _ => none) (fun _ => none) (fun _ _ _ => none) (fun _ _ _ => none)
    () (fun _ _ _ _ => ()) v

noncomputable def V.onBool (α : Type) (v : V) : (Bool → Option α) → Option α :=
  V.rec (motive_1 := fun _ => (Bool → Option α) → Option α) (motive_2 := fun _ => Unit) (fun b c => c b) (fun _ _ _ => none) (fun _ _ => none) (fun _ _ _ _ _ => none) (fun _ => none) (fun _ _ _ => none)
    (fun _ _ _ _ _ _ _ => none) (fun _ => none) (fun _ => none) (fun _ _ _ _ => none) (fun _ _ => none) (fun _ => none) (fun _ _ _ _ _ _ => none) (fun _ => none) (fun _ _ _ _ => none) (fun _ => none) (fun _ _ _ => none) (fun _ _ _ => none)
    () (fun _ _ _ _ => ()) v

theorem V.onInt_some {α : Type} {v : V} {c : IntKind → Int → Option α} {r : α} (h : v.onInt α c = some r) : ∃ k n, v = .int k n ∧ c k n = some r := by
  cases v <;> first | exact ⟨_, _, rfl, h⟩ | (exact absurd (show (none : Option α) = some r from h) (by simp))

theorem V.onPtr_some {α : Type} {v : V} {c : Nat → Nat → Nat → Nat → Option α} {r : α} (h : v.onPtr α c = some r) : ∃ b x o e, v = .ptr b x o e ∧ c b x o e = some r := by
  cases v <;> first | exact ⟨_, _, _, _, rfl, h⟩ | (exact absurd (show (none : Option α) = some r from h) (by simp))

theorem V.onBool_some {α : Type} {v : V} {c : Bool → Option α} {r : α} (h : v.onBool α c = some r) : ∃ b, v = .bool b ∧ c b = some r := by
  cases v <;> first | exact ⟨_, rfl, h⟩ | (exact absurd (show (none : Option α) = some r from h) (by simp))

abbrev RunOp := Fx (CtxK → Tr V → TH → Option (V × TH))

/-! ### short roads: where one answers, the answer is the operation's -/

noncomputable def kIdx (k : IntKind) : Nat := k.ctorIdx
noncomputable def kEq (k k' : IntKind) : Bool := Nat.beq (kIdx k) (kIdx k')

theorem kEq_eq {k k' : IntKind} (h : kEq k k' = true) : k = k' := by
  have := Nat.eq_of_beq_eq_true h
  cases k <;> cases k' <;> first | rfl | (simp [kIdx, IntKind.ctorIdx] at this)

noncomputable def intBlt (a b : Int) : Bool :=
  Int.rec (motive := fun _ => Bool) (fun m => Int.rec (motive := fun _ => Bool) (fun n => Nat.blt m n) (fun _ => false) b)
    (fun m => Int.rec (motive := fun _ => Bool) (fun _ => true) (fun n => Nat.blt n m) b) a

theorem intBlt_eq (a b : Int) : intBlt a b = decide (a < b) := by
  cases a with
  | ofNat m =>
    cases b with
    | ofNat n =>
      show Nat.blt m n = _
      by_cases h : m < n
      · rw [blt_true h]; exact (decide_eq_true (by simp only [Int.ofNat_eq_natCast]; omega)).symm
      · rw [blt_false h]; exact (decide_eq_false (by simp only [Int.ofNat_eq_natCast]; omega)).symm
    | negSucc n => exact (decide_eq_false (by simp only [Int.ofNat_eq_natCast]; omega)).symm
  | negSucc m =>
    cases b with
    | ofNat n => exact (decide_eq_true (by simp only [Int.ofNat_eq_natCast]; omega)).symm
    | negSucc n =>
      show Nat.blt n m = _
      by_cases h : n < m
      · rw [blt_true h]; exact (decide_eq_true (by omega)).symm
      · rw [blt_false h]; exact (decide_eq_false (by omega)).symm

noncomputable def arithR (op : BinOp) : Fx (IntKind → Int → Int → Option V) :=
  match op with
  | .add => ⟨fun k a b => some (.int k (k.wrap (Int.add a b)))⟩
  | .sub => ⟨fun k a b => some (.int k (k.wrap (Int.sub a b)))⟩
  | .mul => ⟨fun k a b => some (.int k (k.wrap (Int.mul a b)))⟩
  | .lss => ⟨fun _ a b => some (.bool (intBlt a b))⟩
  | .gtr => ⟨fun _ a b => some (.bool (intBlt b a))⟩
  | .shl => ⟨fun _ _ _ => none⟩
  | .shr => ⟨fun _ _ _ => none⟩
  | op => ⟨fun k a b => arithE op k a b⟩

theorem binE_arith {op : BinOp} {k : IntKind} {a b : Int} (h1 : op ≠ .shl) (h2 : op ≠ .shr) : binE op (.int k a) (.int k b) = arithE op k a b := by
  simp only [binE]
  rw [if_neg (fun e => e.elim h1 h2)]
  simp

theorem arithR_ok {op : BinOp} {k : IntKind} {a b : Int} {v : V} (h : (arithR op).run k a b = some v) : binE op (.int k a) (.int k b) = some v := by
  unfold arithR at h
  split at h
  · rw [binE_arith (by simp) (by simp)]; exact h
  · rw [binE_arith (by simp) (by simp)]; exact h
  · rw [binE_arith (by simp) (by simp)]; exact h
  · dsimp only at h
    rw [intBlt_eq] at h
    rw [binE_arith (by simp) (by simp)]; exact h
  · dsimp only at h
    rw [intBlt_eq] at h
    rw [binE_arith (by simp) (by simp)]; exact h
  · simp at h
  · simp at h
  · rename_i h1 h2 h3 h4 h5 h6 h7
    rw [binE_arith h6 h7]; exact h

noncomputable def nthR (l : List V) : Nat → Option V :=
  List.rec (motive := fun _ => Nat → Option V) (fun _ => none) (fun h _ ih n => Nat.rec (motive := fun _ => Option V) (some h) (fun m _ => ih m) n) l

theorem nthR_ok : ∀ (l : List V) (n : Nat), nthR l n = l[n]?
  | [], _ => rfl
  | _ :: _, 0 => rfl
  | _ :: l, n + 1 => by
    show nthR l n = _
    rw [nthR_ok l n]; rfl

/-- One cell of a row. -/
noncomputable def cellR (x : Option Box) (v o : Nat) : Option V :=
  Option.rec none (fun x => Box.rec (fun l _ mn => Bool.rec none (nthR l o) (Nat.ble mn v)) (fun _ _ => none) x) x

theorem cellR_ok {g : Nat → Option Box} {b v o ext : Nat} {y : V} (h : cellR (g b) v o = some y) (h1 : 1 ≤ ext) : loadG g false 1 (.ptr b v o ext) = some y := by
  unfold cellR at h
  simp only [loadG, if_pos h1, readG]
  cases hg : g b with
  | none => rw [hg] at h; exact absurd (show (none : Option V) = some y from h) (by simp)
  | some x =>
    rw [hg] at h
    cases x with
    | map es c => exact absurd (show (none : Option V) = some y from h) (by simp)
    | cells l ver mn =>
      cases hb : Nat.ble mn v with
      | false =>
        have h : (Bool.rec (motive := fun _ => Option V) none (nthR l o) (Nat.ble mn v)) = some y := h
        rw [hb] at h; exact absurd (show (none : Option V) = some y from h) (by simp)
      | true =>
        have h : (Bool.rec (motive := fun _ => Option V) none (nthR l o) (Nat.ble mn v)) = some y := h
        rw [hb] at h
        have h : nthR l o = some y := h
        rw [nthR_ok] at h
        rw [Nat.ble_eq] at hb
        have ho := (List.getElem?_eq_some_iff.1 h).1
        simp only
        rw [if_pos ⟨hb, by omega⟩]
        simp only [Option.bind_some, mk, Bool.false_eq_true, if_false]
        have : (l.drop o).take 1 = [y] := by
          rw [List.drop_eq_getElem_cons ho]
          exact congrArg (fun z => [z]) (List.getElem?_eq_some_iff.1 h).2
        rw [this]

noncomputable def setNth (l : List V) : Nat → V → List V :=
  List.rec (motive := fun _ => Nat → V → List V) (fun _ _ => []) (fun h t ih n x => Nat.rec (motive := fun _ => List V) (x :: t) (fun m _ => h :: ih m x) n) l

theorem setNth_ok (y : V) : ∀ (l : List V) (o : Nat), o < l.length → setNth l o y = splice l o [y]
  | [], o, h => by simp at h
  | a :: l, 0, _ => rfl
  | a :: l, o + 1, h => by
    show a :: setNth l o y = _
    rw [setNth_ok y l o (by simpa using h)]
    rfl

noncomputable def oneR (v : V) : Bool :=
  V.rec (motive_1 := fun _ => Bool) (motive_2 := fun _ => Unit) (fun _ => true) (fun _ _ => true) (fun _ => true) (fun _ _ _ _ => true) true (fun _ _ => true)
    (fun _ _ _ _ _ _ => true) true true (fun _ _ _ => true) (fun _ => true) true (fun _ _ _ _ _ => true) true (fun _ _ _ => true) true (fun _ _ => false) (fun _ _ => false)
    () (fun _ _ _ _ => ()) v

theorem oneR_eq (v : V) : oneR v = V.one v := by cases v <;> rfl

theorem one_cells {v : V} (h : V.one v = true) : v.cells = [v] := by cases v <;> first | rfl | simp [V.one] at h

/-- One cell of a row is written: the box that comes. -/
noncomputable def storeR (x : Option Box) (v o : Nat) (y : V) : Option Box :=
  Option.rec none (fun x => Box.rec (fun l ver _ => Bool.rec none (Option.rec none (fun _ => Bool.rec none (some (.cells (setNth l o y) ver ver)) (oneR y)) (nthR l o)) (Nat.beq v ver)) (fun _ _ => none) x) x

theorem storeR_ok {g : Nat → Option Box} {b v o ext : Nat} {y : V} {bx : Box} (h : storeR (g b) v o y = some bx) (h1 : 1 ≤ ext) : storeG g 1 (.ptr b v o ext) y = some (.put b bx) := by
  unfold storeR at h
  cases hg : g b with
  | none => rw [hg] at h; exact absurd (show (none : Option Box) = some bx from h) (by simp)
  | some x =>
    rw [hg] at h
    cases x with
    | map es c => exact absurd (show (none : Option Box) = some bx from h) (by simp)
    | cells l ver mn =>
      have h : (Bool.rec (motive := fun _ => Option Box) none (Option.rec (motive := fun _ => Option Box) none (fun _ => Bool.rec (motive := fun _ => Option Box) none (some (.cells (setNth l o y) ver ver)) (oneR y)) (nthR l o)) (Nat.beq v ver)) = some bx := h
      cases hb : Nat.beq v ver with
      | false => rw [hb] at h; exact absurd (show (none : Option Box) = some bx from h) (by simp)
      | true =>
        rw [hb] at h
        have hv := Nat.eq_of_beq_eq_true hb
        rw [nthR_ok] at h
        cases hn : l[o]? with
        | none => rw [hn] at h; exact absurd (show (none : Option Box) = some bx from h) (by simp)
        | some z =>
          rw [hn] at h
          have ho := (List.getElem?_eq_some_iff.1 hn).1
          have h : (Bool.rec (motive := fun _ => Option Box) none (some (.cells (setNth l o y) ver ver)) (oneR y)) = some bx := h
          rw [oneR_eq] at h
          cases h1y : V.one y with
          | false => rw [h1y] at h; exact absurd (show (none : Option Box) = some bx from h) (by simp)
          | true =>
            rw [h1y] at h
            have h : some (Box.cells (setNth l o y) ver ver) = some bx := h
            simp only [Option.some.injEq] at h
            subst h
            rw [setNth_ok y l o ho]
            simp only [storeG, one_cells h1y, List.length_singleton]
            rw [if_pos ⟨by trivial, h1⟩]
            simp only [writeG, hg]
            rw [if_pos ⟨hv, by first | exact ho | (simp; omega), by simpa using h1y⟩]

/-- An operation, staged: the frequent ones by their own roads, where these answer. -/
noncomputable def opR (N d : Nat) (op : EOp) : RunOp :=
  match op with
  | .move x => ⟨fun _ t H => some ((rd N d x).run t, H)⟩
  | .fieldAddr off x => ⟨fun _ t H => ((rd N d x).run t).onPtr (V × TH) fun b v o e => Bool.rec none (some (.ptr b v (Nat.add o off) (Nat.sub e off), H)) (Nat.ble off e)⟩
  | .nilc x => ⟨fun X t H => Option.rec (opK (.nilc x) X (fun x => (rd N d x).run t) H) (fun r => some r) (((rd N d x).run t).onPtr (V × TH) fun b v o e => some (.ptr b v o e, H))⟩
  | .bin op x y => ⟨fun X t H => Option.rec (opK (.bin op x y) X (fun x => (rd N d x).run t) H) (fun r => some (r, H))
      (((rd N d x).run t).onInt V fun k a => ((rd N d y).run t).onInt V fun k' b => Bool.rec none ((arithR op).run k a b) (kEq k k'))⟩
  | .load false 1 x => ⟨fun X t H => Option.rec (opK (.load false 1 x) X (fun x => (rd N d x).run t) H) (fun r => some (r, H))
      (((rd N d x).run t).onPtr V fun b v o e => Bool.rec none (cellR (H.get b) v o) (Nat.ble 1 e))⟩
  | .store 1 a x => ⟨fun X t H => Option.rec (opK (.store 1 a x) X (fun x => (rd N d x).run t) H) (fun r => some r)
      (((rd N d a).run t).onPtr (V × TH) fun b v o e => Bool.rec none (Option.rec none (fun bx => Option.rec none (fun H' => some (V.undef, H')) ((Upd.put b bx).onK H)) (storeR (H.get b) v o ((rd N d x).run t))) (Nat.ble 1 e))⟩
  | .call f args => ⟨fun X t H => X f (args.map fun x => (rd N d x).run t) H⟩
  | op => ⟨fun X t H => opK op X (fun x => (rd N d x).run t) H⟩

section
variable {XK : CtxK} {X : Ctx}

theorem opR_sim (hX : Sim XK X) {N d : Nat} {op : EOp} {t : Tr V} {e : Env} {H H' : TH} {L : Heap} {v : V} (hE : EIs N d t e) (hH : HIs H L) (h : (opR N d op).run XK t H = some (v, H')) :
    ∃ L', evalOp X e L op = some (v, L') ∧ HIs H' L' := by
  unfold opR at h
  split at h
  · rename_i x
    simp only [Option.some.injEq, Prod.mk.injEq] at h
    obtain ⟨rfl, rfl⟩ := h
    exact ⟨L, by rw [rd_ok hE]; rfl, hH⟩
  · rename_i off x
    obtain ⟨b, y, o, ex, h1, h2⟩ := V.onPtr_some h
    rw [rd_ok hE] at h1
    cases hb : Nat.ble off ex with
    | false => rw [hb] at h2; exact absurd h2 (by simp)
    | true =>
      rw [hb] at h2
      have h2 : some (V.ptr b y (o + off) (ex - off), H) = some (v, H') := h2
      simp only [Option.some.injEq, Prod.mk.injEq] at h2
      obtain ⟨rfl, rfl⟩ := h2
      refine ⟨L, ?_, hH⟩
      rw [Nat.ble_eq] at hb
      simp only [evalOp, h1, fieldAddrE, if_pos hb]; rfl
  · rename_i x
    dsimp only at h
    rw [rd_fun hE, rd_ok hE] at h
    cases hf : ((Opd.ev e x).onPtr (V × TH) fun b v o e => some (.ptr b v o e, H)) with
    | none => rw [hf] at h; exact opK_sim hX hH h
    | some r =>
      rw [hf] at h
      have h : some r = some (v, H') := h
      simp only [Option.some.injEq] at h; subst h
      obtain ⟨b, y, o, ex, h1, h2⟩ := V.onPtr_some hf
      simp only [Option.some.injEq, Prod.mk.injEq] at h2
      obtain ⟨rfl, rfl⟩ := h2
      exact ⟨L, by simp only [evalOp, h1], hH⟩
  · rename_i op x y
    dsimp only at h
    rw [rd_fun hE, rd_ok hE, rd_ok hE] at h
    cases hf : ((Opd.ev e x).onInt V fun k a => (Opd.ev e y).onInt V fun k' b => Bool.rec (motive := fun _ => Option V) none ((arithR op).run k a b) (kEq k k')) with
    | none => rw [hf] at h; exact opK_sim hX hH h
    | some r =>
      rw [hf] at h
      have h : some (r, H) = some (v, H') := h
      simp only [Option.some.injEq, Prod.mk.injEq] at h
      obtain ⟨rfl, rfl⟩ := h
      obtain ⟨k, a, h1, h2⟩ := V.onInt_some hf
      obtain ⟨k', b, h3, h4⟩ := V.onInt_some h2
      cases hk : kEq k k' with
      | false => rw [hk] at h4; exact absurd (show (none : Option V) = some r from h4) (by simp)
      | true =>
        rw [hk] at h4
        have := kEq_eq hk
        subst this
        exact ⟨L, by simp only [evalOp, h1, h3, arithR_ok h4, pure1, Option.map_some], hH⟩
  · rename_i x
    dsimp only at h
    rw [rd_fun hE, rd_ok hE] at h
    cases hf : ((Opd.ev e x).onPtr V fun b v o e => Bool.rec (motive := fun _ => Option V) none (cellR (H.get b) v o) (Nat.ble 1 e)) with
    | none => rw [hf] at h; exact opK_sim hX hH h
    | some r =>
      rw [hf] at h
      have h : some (r, H) = some (v, H') := h
      simp only [Option.some.injEq, Prod.mk.injEq] at h
      obtain ⟨rfl, rfl⟩ := h
      obtain ⟨b, y, o, ex, h1, h2⟩ := V.onPtr_some hf
      cases hb : Nat.ble 1 ex with
      | false => rw [hb] at h2; exact absurd (show (none : Option V) = some r from h2) (by simp)
      | true =>
        rw [hb] at h2
        rw [Nat.ble_eq] at hb
        have h3 : cellR (H.get b) y o = some r := h2
        rw [hH.got] at h3
        have h4 := cellR_ok (g := (L[·]?)) h3 hb
        rw [← loadG_eq] at h4
        exact ⟨L, by simp only [evalOp, h1, h4, pure1, Option.map_some], hH⟩
  · rename_i p x
    dsimp only at h
    rw [rd_fun hE, rd_ok hE, rd_ok hE] at h
    cases hf : ((Opd.ev e p).onPtr (V × TH) fun b v o ex => Bool.rec (motive := fun _ => Option (V × TH)) none (Option.rec (motive := fun _ => Option (V × TH)) none (fun bx => Option.rec (motive := fun _ => Option (V × TH)) none (fun H' => some (V.undef, H')) ((Upd.put b bx).onK H)) (storeR (H.get b) v o (Opd.ev e x))) (Nat.ble 1 ex)) with
    | none => rw [hf] at h; exact opK_sim hX hH h
    | some r =>
      rw [hf] at h
      have h : some r = some (v, H') := h
      simp only [Option.some.injEq] at h; subst h
      obtain ⟨b, y, o, ex, h1, h2⟩ := V.onPtr_some hf
      cases hb : Nat.ble 1 ex with
      | false => rw [hb] at h2; exact absurd (show (none : Option (V × TH)) = some (v, H') from h2) (by simp)
      | true =>
        rw [hb] at h2
        rw [Nat.ble_eq] at hb
        cases h3 : storeR (H.get b) y o (Opd.ev e x) with
        | none => rw [h3] at h2; exact absurd (show (none : Option (V × TH)) = some (v, H') from h2) (by simp)
        | some bx =>
          rw [h3] at h2
          cases h4 : (Upd.put b bx).onK H with
          | none =>
            have h2 : (Option.rec (motive := fun _ => Option (V × TH)) none (fun H' => some (V.undef, H')) ((Upd.put b bx).onK H)) = some (v, H') := h2
            rw [h4] at h2; exact absurd (show (none : Option (V × TH)) = some (v, H') from h2) (by simp)
          | some H2 =>
            have h2 : (Option.rec (motive := fun _ => Option (V × TH)) none (fun H' => some (V.undef, H')) ((Upd.put b bx).onK H)) = some (v, H') := h2
            rw [h4] at h2
            have h2 : some (V.undef, H2) = some (v, H') := h2
            simp only [Option.some.injEq, Prod.mk.injEq] at h2
            obtain ⟨rfl, rfl⟩ := h2
            rw [hH.got] at h3
            have h5 := storeR_ok (g := (L[·]?)) h3 hb
            have h6 : opG (.store 1 p x) (Opd.ev e) (L[·]?) L.length = some (V.undef, .put b bx) := by
              simp only [opG, h1, h5, Option.map_some]
            exact ⟨_, opG_ok h6, hH.on h4⟩
  · dsimp only at h
    rw [rd_fun hE] at h
    exact hX _ _ _ _ _ _ hH h
  · dsimp only at h
    rw [rd_fun hE] at h
    exact opK_sim hX hH h

end
end Go.PE
