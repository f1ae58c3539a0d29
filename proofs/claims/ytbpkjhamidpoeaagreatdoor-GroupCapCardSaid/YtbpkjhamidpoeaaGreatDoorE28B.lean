/- More short roads for the staged operations: comparing, choosing, addresses of elements, making memory, whole structs read and written. Nothing of a program stands here. -/
import Derived.Test.YtbpkjhamidpoeaaGreatDoorE28
namespace Go.PE

noncomputable def V.onSl (α : Type) (v : V) : (Nat → Nat → Nat → Nat → Nat → Option α) → Option α :=
  V.rec (motive_1 := fun _ => (Nat → Nat → Nat → Nat → Nat → Option α) → Option α) (motive_2 := fun _ => Unit) (fun _ _ => none) (fun _ _ _ => none) (fun _ _ => none) (fun _ _ _ _ _ => none) (fun _ => none) (fun _ _ _ => none)
    (fun b v o n es _ c => c b v o n es) (fun _ => none) (fun _ => none) (fun _ _ _ _ => none) (fun _ _ => none) (fun _ => none) (fun _ _ _ _ _ _ => none) (fun _ => none) (fun _ _ _ _ => none) (fun _ => none) (fun _ _ _ => none) (fun _ _ _ => none)
    () (fun _ _ _ _ => ()) v

noncomputable def V.onTup (α : Type) (v : V) : (List V → Option α) → Option α :=
  V.rec (motive_1 := fun _ => (List V → Option α) → Option α) (motive_2 := fun _ => Unit) (fun _ _ => none) (fun _ _ _ => none) (fun _ _ => none) (fun _ _ _ _ _ => none) (fun _ => none) (fun _ _ _ => none)
    (fun _ _ _ _ _ _ _ => none) (fun _ => none) (fun _ => none) (fun _ _ _ _ => none) (fun _ _ => none) (fun _ => none) (fun _ _ _ _ _ _ => none) (fun _ => none) (fun _ _ _ _ => none) (fun _ => none) (fun _ _ _ => none) (fun l _ c => c l)
    () (fun _ _ _ _ => ()) v

noncomputable def V.onAgg (α : Type) (v : V) : (List V → Option α) → Option α :=
  V.rec (motive_1 := fun _ => (List V → Option α) → Option α) (motive_2 := fun _ => Unit) (fun _ _ => none) (fun _ _ _ => none) (fun _ _ => none) (fun _ _ _ _ _ => none) (fun _ => none) (fun _ _ _ => none)
    (fun _ _ _ _ _ _ _ => none) (fun _ => none) (fun _ => none) (fun _ _ _ _ => none) (fun _ _ => none) (fun _ => none) (fun _ _ _ _ _ _ => none) (fun _ => none) (fun _ _ _ _ => none) (fun _ => none) (fun l _ c => c l) (fun _ _ _ => none)
    () (fun _ _ _ _ => ()) v

/-- A value's cells: a struct's, or itself alone. -/
noncomputable def V.cellsR (v : V) : List V :=
  V.rec (motive_1 := fun _ => List V) (motive_2 := fun _ => Unit) (fun b => [.bool b]) (fun k n => [.int k n]) (fun s => [.str s]) (fun b v o e => [.ptr b v o e]) [.nilptr] (fun l _ => [.pptr l])
    (fun b v o n es c => [.slice b v o n es c]) [.nils] [.emp0] (fun n l _ => [.psl n l]) (fun b => [.map b]) [.nilmap] (fun f a c _ _ => [.fn f a c]) [.nilfn] (fun t v _ => [.iface t v]) [.nilif] (fun l _ => l) (fun l _ => [.tup l])
    () (fun _ _ _ _ => ()) v

theorem V.cellsR_eq (v : V) : v.cellsR = v.cells := by cases v <;> rfl

theorem V.onSl_some {α : Type} {v : V} {c : Nat → Nat → Nat → Nat → Nat → Option α} {r : α} (h : v.onSl α c = some r) : ∃ b x o n es cap, v = .slice b x o n es cap ∧ c b x o n es = some r := by
  cases v <;> first | exact ⟨_, _, _, _, _, _, rfl, h⟩ | (exact absurd (show (none : Option α) = some r from h) (by simp))

theorem V.onTup_some {α : Type} {v : V} {c : List V → Option α} {r : α} (h : v.onTup α c = some r) : ∃ l, v = .tup l ∧ c l = some r := by
  cases v <;> first | exact ⟨_, rfl, h⟩ | (exact absurd (show (none : Option α) = some r from h) (by simp))

theorem V.onAgg_some {α : Type} {v : V} {c : List V → Option α} {r : α} (h : v.onAgg α c = some r) : ∃ l, v = .agg l ∧ c l = some r := by
  cases v <;> first | exact ⟨_, rfl, h⟩ | (exact absurd (show (none : Option α) = some r from h) (by simp))

/-! ### rows of cells -/

/-- How long is it, if each is one cell? -/
noncomputable def lenOne (l : List V) : Option Nat :=
  List.rec (motive := fun _ => Option Nat) (some 0) (fun h _ ih => Bool.rec none (Option.rec none (fun n => some (Nat.succ n)) ih) (oneR h)) l

theorem lenOne_ok : ∀ (l : List V) {n : Nat}, lenOne l = some n → l.all V.one = true ∧ l.length = n
  | [], n, h => by
    have h : some 0 = some n := h
    simp only [Option.some.injEq] at h
    subst h
    exact ⟨rfl, rfl⟩
  | a :: l, n, h => by
    have h : (Bool.rec (motive := fun _ => Option Nat) none (Option.rec (motive := fun _ => Option Nat) none (fun n => some (Nat.succ n)) (lenOne l)) (oneR a)) = some n := h
    rw [oneR_eq] at h
    cases ha : V.one a with
    | false => rw [ha] at h; exact absurd (show (none : Option Nat) = some n from h) (by simp)
    | true =>
      rw [ha] at h
      cases hl : lenOne l with
      | none => rw [hl] at h; exact absurd (show (none : Option Nat) = some n from h) (by simp)
      | some m =>
        rw [hl] at h
        have h : some (Nat.succ m) = some n := h
        simp only [Option.some.injEq] at h
        obtain ⟨h1, h2⟩ := lenOne_ok l hl
        exact ⟨by simp [ha, h1], by rw [List.length_cons, h2]; exact h⟩

noncomputable def takeR (n : Nat) : List V → Option (List V) :=
  Nat.rec (motive := fun _ => List V → Option (List V)) (fun _ => some [])
    (fun _ ih l => List.rec (motive := fun _ => Option (List V)) none (fun h t _ => Option.rec none (fun r => some (h :: r)) (ih t)) l) n

theorem takeR_ok : ∀ (n : Nat) (l : List V) {cs : List V}, takeR n l = some cs → n ≤ l.length ∧ cs = l.take n
  | 0, l, cs, h => by
    have h : some [] = some cs := h
    simp only [Option.some.injEq] at h
    exact ⟨Nat.zero_le _, by simp [← h]⟩
  | n + 1, [], cs, h => absurd (show (none : Option (List V)) = some cs from h) (by simp)
  | n + 1, a :: l, cs, h => by
    have h : (Option.rec (motive := fun _ => Option (List V)) none (fun r => some (a :: r)) (takeR n l)) = some cs := h
    cases hl : takeR n l with
    | none => rw [hl] at h; exact absurd (show (none : Option (List V)) = some cs from h) (by simp)
    | some r =>
      rw [hl] at h
      have h : some (a :: r) = some cs := h
      simp only [Option.some.injEq] at h
      obtain ⟨h1, h2⟩ := takeR_ok n l hl
      exact ⟨by simpa using h1, by rw [← h, h2]; rfl⟩

noncomputable def dropR (n : Nat) : List V → Option (List V) :=
  Nat.rec (motive := fun _ => List V → Option (List V)) (fun l => some l)
    (fun _ ih l => List.rec (motive := fun _ => Option (List V)) none (fun _ t _ => ih t) l) n

theorem dropR_ok : ∀ (n : Nat) (l : List V) {cs : List V}, dropR n l = some cs → n ≤ l.length ∧ cs = l.drop n
  | 0, l, cs, h => by
    have h : some l = some cs := h
    simp only [Option.some.injEq] at h
    exact ⟨Nat.zero_le _, by simp [← h]⟩
  | n + 1, [], cs, h => absurd (show (none : Option (List V)) = some cs from h) (by simp)
  | n + 1, a :: l, cs, h => by
    obtain ⟨h1, h2⟩ := dropR_ok n l (show dropR n l = some cs from h)
    exact ⟨by simpa using h1, by rw [h2]; rfl⟩

/-- Cells laid over the first ones. -/
noncomputable def overR (cs : List V) : List V → Option (List V) :=
  List.rec (motive := fun _ => List V → Option (List V)) (fun l => some l)
    (fun c _ ih l => List.rec (motive := fun _ => Option (List V)) none (fun _ t _ => Option.rec none (fun r => some (c :: r)) (ih t)) l) cs

theorem overR_ok : ∀ (cs l : List V) {r : List V}, overR cs l = some r → cs.length ≤ l.length ∧ r = cs ++ l.drop cs.length
  | [], l, r, h => by
    have h : some l = some r := h
    simp only [Option.some.injEq] at h
    exact ⟨Nat.zero_le _, by simp [← h]⟩
  | c :: cs, [], r, h => absurd (show (none : Option (List V)) = some r from h) (by simp)
  | c :: cs, a :: l, r, h => by
    have h : (Option.rec (motive := fun _ => Option (List V)) none (fun r => some (c :: r)) (overR cs l)) = some r := h
    cases hl : overR cs l with
    | none => rw [hl] at h; exact absurd (show (none : Option (List V)) = some r from h) (by simp)
    | some r' =>
      rw [hl] at h
      have h : some (c :: r') = some r := h
      simp only [Option.some.injEq] at h
      obtain ⟨h1, h2⟩ := overR_ok cs l hl
      exact ⟨by simpa using h1, by rw [← h, h2]; rfl⟩

/-- Cells laid over those from an offset on. -/
noncomputable def splR (cs : List V) (n : Nat) : List V → Option (List V) :=
  Nat.rec (motive := fun _ => List V → Option (List V)) (fun l => overR cs l)
    (fun _ ih l => List.rec (motive := fun _ => Option (List V)) none (fun h t _ => Option.rec none (fun r => some (h :: r)) (ih t)) l) n

theorem splR_ok (cs : List V) : ∀ (n : Nat) (l : List V) {r : List V}, splR cs n l = some r → n + cs.length ≤ l.length ∧ r = splice l n cs
  | 0, l, r, h => by
    obtain ⟨h1, h2⟩ := overR_ok cs l (show overR cs l = some r from h)
    exact ⟨by omega, by rw [h2]; simp [splice]⟩
  | n + 1, [], r, h => absurd (show (none : Option (List V)) = some r from h) (by simp)
  | n + 1, a :: l, r, h => by
    have h : (Option.rec (motive := fun _ => Option (List V)) none (fun r => some (a :: r)) (splR cs n l)) = some r := h
    cases hl : splR cs n l with
    | none => rw [hl] at h; exact absurd (show (none : Option (List V)) = some r from h) (by simp)
    | some r' =>
      rw [hl] at h
      have h : some (a :: r') = some r := h
      simp only [Option.some.injEq] at h
      obtain ⟨h1, h2⟩ := splR_ok cs n l hl
      refine ⟨by simp; omega, ?_⟩
      rw [← h, h2]
      simp [splice, Nat.add_right_comm]

noncomputable def cnt (l : List V) : Nat := List.rec (motive := fun _ => Nat) 0 (fun _ _ ih => Nat.succ ih) l
theorem cnt_eq : ∀ (l : List V), cnt l = l.length
  | [] => rfl
  | _ :: l => congrArg Nat.succ (cnt_eq l)

/-- The parts of a struct, laid into its zero's cells. -/
noncomputable def partsR (N d : Nat) (ps : List (Nat × Nat × Opd)) : Fx (Tr V → List V → Option (List V)) :=
  List.rec (motive := fun _ => Fx (Tr V → List V → Option (List V))) ⟨fun _ l => some l⟩
    (fun p _ ih => ⟨fun t l => Bool.rec none (Option.rec none (fun r => ih.run t r) (splR ((rd N d p.2.2).run t).cellsR p.1 l)) (Nat.beq (cnt ((rd N d p.2.2).run t).cellsR) p.2.1)⟩) ps

theorem brec_some {β : Type} {r : β} {b : Bool} {x : Option β} (h : (Bool.rec (motive := fun _ => Option β) none x b) = some r) : b = true ∧ x = some r := by
  cases b with
  | false => exact absurd (show (none : Option β) = some r from h) (by simp)
  | true => exact ⟨rfl, h⟩

theorem orec_some' {α β : Type} {r : β} {x : Option α} {f : α → Option β} (h : (Option.rec (motive := fun _ => Option β) none f x) = some r) : ∃ y, x = some y ∧ f y = some r := by
  cases x with
  | none => exact absurd (show (none : Option β) = some r from h) (by simp)
  | some y => exact ⟨y, rfl, h⟩

theorem partsR_ok {N d : Nat} {t : Tr V} {e : Env} (hE : EIs N d t e) : ∀ (ps : List (Nat × Nat × Opd)) (l : List V) {r : List V}, (partsR N d ps).run t l = some r → fillE l (ps.map fun p => (p.1, p.2.1, Opd.ev e p.2.2)) = some r
  | [], l, r, h => h
  | p :: ps, l, r, h => by
    have h : (Bool.rec (motive := fun _ => Option (List V)) none (Option.rec (motive := fun _ => Option (List V)) none (fun r => (partsR N d ps).run t r) (splR ((rd N d p.2.2).run t).cellsR p.1 l)) (Nat.beq (cnt ((rd N d p.2.2).run t).cellsR) p.2.1)) = some r := h
    obtain ⟨h1, h⟩ := brec_some h
    obtain ⟨l', h2, h⟩ := orec_some' h
    rw [rd_ok hE, V.cellsR_eq] at h1 h2
    rw [cnt_eq] at h1
    have h1 := Nat.eq_of_beq_eq_true h1
    obtain ⟨h3, h4⟩ := splR_ok _ _ _ h2
    simp only [List.map_cons, fillE]
    rw [if_pos ⟨h1, by omega⟩, ← h4]
    exact partsR_ok hE ps l' h

noncomputable def intBeq (a b : Int) : Bool :=
  Int.rec (motive := fun _ => Bool) (fun m => Int.rec (motive := fun _ => Bool) (fun n => Nat.beq m n) (fun _ => false) b)
    (fun m => Int.rec (motive := fun _ => Bool) (fun _ => false) (fun n => Nat.beq m n) b) a

theorem nbeq (m n : Nat) : Nat.beq m n = decide (m = n) := by
  cases h : Nat.beq m n with
  | true => simp [Nat.eq_of_beq_eq_true h]
  | false =>
    have : m ≠ n := fun c => by rw [c, Nat.beq_refl] at h; simp at h
    simp [this]

theorem intBeq_eq (a b : Int) : intBeq a b = (a == b) := by
  cases a with
  | ofNat m =>
    cases b with
    | ofNat n =>
      show Nat.beq m n = decide (Int.ofNat m = Int.ofNat n)
      rw [nbeq]
      by_cases h : m = n
      · simp [h]
      · rw [decide_eq_false h, decide_eq_false (fun c => h (Int.ofNat.inj c))]
    | negSucc n => show false = _; simp
  | negSucc m =>
    cases b with
    | ofNat n => show false = _; simp
    | negSucc n => show Nat.beq m n = _; rw [nbeq]; by_cases h : m = n <;> simp [h]

noncomputable def xorB (a b : Bool) : Bool := Bool.rec b (Bool.rec true false b) a
theorem xorB_eq (a b : Bool) : xorB a b = (a != b) := by cases a <;> cases b <;> rfl

/-- A number that is none below zero. -/
noncomputable def natOf (α : Type) (a : Int) (c : Nat → Option α) : Option α := Int.rec (motive := fun _ => Option α) c (fun _ => none) a
theorem natOf_some {α : Type} {a : Int} {c : Nat → Option α} {r : α} (h : natOf α a c = some r) : ∃ n : Nat, a = n ∧ c n = some r := by
  cases a with
  | ofNat n => exact ⟨n, rfl, h⟩
  | negSucc n => exact absurd (show (none : Option α) = some r from h) (by simp)

noncomputable def cellsOf (α : Type) (x : Option Box) (c : List V → Nat → Nat → Option α) : Option α :=
  Option.rec none (fun x => Box.rec (fun l ver mn => c l ver mn) (fun _ _ => none) x) x
theorem cellsOf_some {α : Type} {x : Option Box} {c : List V → Nat → Nat → Option α} {r : α} (h : cellsOf α x c = some r) : ∃ l ver mn, x = some (.cells l ver mn) ∧ c l ver mn = some r := by
  cases x with
  | none => exact absurd (show (none : Option α) = some r from h) (by simp)
  | some x =>
    cases x with
    | cells l ver mn => exact ⟨l, ver, mn, rfl, h⟩
    | map es c => exact absurd (show (none : Option α) = some r from h) (by simp)

abbrev Fast := Fx (Tr V → (Nat → Option Box) → Nat → Option (V × Upd))

noncomputable def fastG (N d : Nat) (op : EOp) : Option Fast :=
  match op with
  | .pick c a b => some ⟨fun t _ _ => ((rd N d c).run t).onBool (V × Upd) fun q => some (Bool.rec ((rd N d b).run t) ((rd N d a).run t) q, .same)⟩
  | .eq neg (.leaf .int) x y => some ⟨fun t _ _ => ((rd N d x).run t).onInt (V × Upd) fun k a => ((rd N d y).run t).onInt (V × Upd) fun k' b => Bool.rec none (some (.bool (xorB (intBeq a b) neg), .same)) (kEq k k')⟩
  | .un .not x => some ⟨fun t _ _ => ((rd N d x).run t).onBool (V × Upd) fun q => some (.bool (Bool.rec true false q), .same)⟩
  | .conv k x => some ⟨fun t _ _ => ((rd N d x).run t).onInt (V × Upd) fun _ a => some (.int k (k.wrap a), .same)⟩
  | .len false x => some ⟨fun t _ _ => ((rd N d x).run t).onSl (V × Upd) fun _ _ _ n _ => some (.int .i64 (Int.ofNat n), .same)⟩
  | .indexAddrSl es x i => some ⟨fun t _ _ => ((rd N d x).run t).onSl (V × Upd) fun b v o n es' => ((rd N d i).run t).onInt (V × Upd) fun _ a => natOf _ a fun k =>
      Bool.rec none (Bool.rec none (some (.ptr b v (Nat.add o (Nat.mul k es)) es, .same)) (Nat.beq es es')) (Nat.blt k n)⟩
  | .indexAddrArr len es x i => some ⟨fun t _ _ => ((rd N d x).run t).onPtr (V × Upd) fun b v o ext => ((rd N d i).run t).onInt (V × Upd) fun _ a => natOf _ a fun k =>
      Bool.rec none (Bool.rec none (some (.ptr b v (Nat.add o (Nat.mul k es)) es, .same)) (Nat.ble (Nat.add (Nat.mul k es) es) ext)) (Nat.blt k len)⟩
  | .box _ x => some ⟨fun t _ m => Option.rec none (fun n => some (.ptr m 0 0 n, .push (.cells ((rd N d x).run t).cellsR 0 0))) (lenOne ((rd N d x).run t).cellsR)⟩
  | .new cs => Option.rec none (fun n => some ⟨fun _ _ m => some (.ptr m 0 0 n, .push (.cells cs 0 0))⟩) (lenOne cs)
  | .load true n x => some ⟨fun t g _ => ((rd N d x).run t).onPtr (V × Upd) fun b v o ext => Bool.rec none (cellsOf _ (g b) fun l _ mn =>
      Bool.rec none (Option.rec none (fun l1 => Option.rec none (fun cs => some (.agg cs, .same)) (takeR n l1)) (dropR o l)) (Nat.ble mn v)) (Nat.ble n ext)⟩
  | .store n a x => some ⟨fun t g _ => ((rd N d a).run t).onPtr (V × Upd) fun b v o ext => Bool.rec none (Option.rec none (fun m => Bool.rec none (cellsOf _ (g b) fun l ver _ =>
      Bool.rec none (Option.rec none (fun l' => some (V.undef, .put b (.cells l' ver ver))) (splR ((rd N d x).run t).cellsR o l)) (Nat.beq v ver)) (Nat.beq m n)) (lenOne ((rd N d x).run t).cellsR)) (Nat.ble n ext)⟩
  | .build zero ps => some ⟨fun t _ _ => Option.rec none (fun cs => some (.agg cs, .same)) ((partsR N d ps).run t zero)⟩
  | .buildSl es zero len ps => Nat.rec (motive := fun _ => Option Fast) none (fun _ _ =>
      some ⟨fun t _ m => Option.rec none (fun cs => Option.rec none (fun _ => some (.slice m 0 0 len es (some len), .push (.cells cs 0 0))) (lenOne cs)) ((partsR N d ps).run t (repeatL zero len))⟩) len
  | .extract x i => some ⟨fun t _ _ => ((rd N d x).run t).onTup (V × Upd) fun l => Option.rec none (fun v => some (v, .same)) (nthR l i)⟩
  | .index (some (len, 1, false)) x i => some ⟨fun t _ _ => ((rd N d x).run t).onAgg (V × Upd) fun l => ((rd N d i).run t).onInt (V × Upd) fun _ a => natOf _ a fun k =>
      Bool.rec none (Option.rec none (fun v => some (v, .same)) (nthR l k)) (Nat.blt k len)⟩
  | .mkFn f a c => some ⟨fun t _ _ => some (.fn f (a.map fun x => (rd N d x).run t) (c.map fun x => (rd N d x).run t), .same)⟩
  | .mkIface k x => some ⟨fun t _ _ => some (.iface k ((rd N d x).run t), .same)⟩
  | _ => none

theorem fastG_ok {N d : Nat} {t : Tr V} {e : Env} (hE : EIs N d t e) {op : EOp} {F : Fast} (hF : fastG N d op = some F) {g : Nat → Option Box} {m : Nat} {r : V × Upd} (h : F.run t g m = some r) : opG op (Opd.ev e) g m = some r := by
  unfold fastG at hF
  split at hF
  · rename_i c a b
    simp only [Option.some.injEq] at hF; subst hF
    obtain ⟨q, h1, h2⟩ := V.onBool_some h
    rw [rd_ok hE] at h1
    simp only [Option.some.injEq] at h2; subst h2
    simp only [opG, h1]
    rw [rd_ok hE, rd_ok hE]
    cases q <;> rfl
  · rename_i neg x y
    simp only [Option.some.injEq] at hF; subst hF
    obtain ⟨k, a, h1, h2⟩ := V.onInt_some h
    obtain ⟨k', b, h3, h4⟩ := V.onInt_some h2
    rw [rd_ok hE] at h1 h3
    obtain ⟨h5, h6⟩ := brec_some h4
    have := kEq_eq h5
    subst this
    simp only [Option.some.injEq] at h6; subst h6
    simp only [opG, h1, h3, eqE, eqLeaf, if_pos, Option.map_some, pureG]
    rw [xorB_eq, intBeq_eq]
  · rename_i x
    simp only [Option.some.injEq] at hF; subst hF
    obtain ⟨q, h1, h2⟩ := V.onBool_some h
    rw [rd_ok hE] at h1
    simp only [Option.some.injEq] at h2; subst h2
    simp only [opG, h1, unE, pureG]
    cases q <;> rfl
  · rename_i k x
    simp only [Option.some.injEq] at hF; subst hF
    obtain ⟨k', a, h1, h2⟩ := V.onInt_some h
    rw [rd_ok hE] at h1
    simp only [Option.some.injEq] at h2; subst h2
    simp only [opG, h1]
  · rename_i x
    simp only [Option.some.injEq] at hF; subst hF
    obtain ⟨b, v, o, n, es, cap, h1, h2⟩ := V.onSl_some h
    rw [rd_ok hE] at h1
    simp only [Option.some.injEq] at h2; subst h2
    simp only [opG, h1, lenK, Option.map_some]; rfl
  · rename_i es x i
    simp only [Option.some.injEq] at hF; subst hF
    obtain ⟨b, v, o, n, es', cap, h1, h2⟩ := V.onSl_some h
    obtain ⟨k', a, h3, h4⟩ := V.onInt_some h2
    obtain ⟨k, rfl, h5⟩ := natOf_some h4
    obtain ⟨h6, h7⟩ := brec_some h5
    obtain ⟨h8, h9⟩ := brec_some h7
    rw [rd_ok hE] at h1 h3
    have h8 := Nat.eq_of_beq_eq_true h8
    subst h8
    simp only [Option.some.injEq] at h9; subst h9
    have hk : k < n := Nat.le_of_ble_eq_true h6
    simp only [opG, h1, h3, indexAddrSlE]
    rw [if_pos (by simp; omega)]
    rfl
  · rename_i len es x i
    simp only [Option.some.injEq] at hF; subst hF
    obtain ⟨b, v, o, ext, h1, h2⟩ := V.onPtr_some h
    obtain ⟨k', a, h3, h4⟩ := V.onInt_some h2
    obtain ⟨k, rfl, h5⟩ := natOf_some h4
    obtain ⟨h6, h7⟩ := brec_some h5
    obtain ⟨h8, h9⟩ := brec_some h7
    rw [rd_ok hE] at h1 h3
    simp only [Option.some.injEq] at h9; subst h9
    have hk : k < len := Nat.le_of_ble_eq_true h6
    have h8 : k * es + es ≤ ext := Nat.le_of_ble_eq_true h8
    simp only [opG, h1, h3, indexAddrArrE]
    rw [if_pos ⟨by omega, by omega⟩]
    simp only [Int.toNat_natCast]
    rw [if_pos h8]
    rfl
  · rename_i n x
    simp only [Option.some.injEq] at hF; subst hF
    obtain ⟨k, h1, h2⟩ := orec_some' h
    rw [rd_ok hE, V.cellsR_eq] at h1
    obtain ⟨h3, h4⟩ := lenOne_ok _ h1
    simp only [Option.some.injEq] at h2; subst h2
    rw [rd_ok hE, V.cellsR_eq]
    simp only [opG, newG]
    rw [if_pos h3, h4]
  · rename_i cs
    obtain ⟨k, h1, h2⟩ := orec_some' hF
    simp only [Option.some.injEq] at h2; subst h2
    obtain ⟨h3, h4⟩ := lenOne_ok _ h1
    simp only [Option.some.injEq] at h; subst h
    simp only [opG, newG]
    rw [if_pos h3, h4]
  · rename_i n x
    simp only [Option.some.injEq] at hF; subst hF
    obtain ⟨b, v, o, ext, h1, h2⟩ := V.onPtr_some h
    obtain ⟨h3, h4⟩ := brec_some h2
    obtain ⟨l, ver, mn, h5, h6⟩ := cellsOf_some h4
    obtain ⟨h7, h8⟩ := brec_some h6
    obtain ⟨l1, h9, h10⟩ := orec_some' h8
    obtain ⟨cs, h11, h12⟩ := orec_some' h10
    simp only [Option.some.injEq] at h12; subst h12
    rw [rd_ok hE] at h1
    have h3 : n ≤ ext := Nat.le_of_ble_eq_true h3
    have h7 : mn ≤ v := Nat.le_of_ble_eq_true h7
    obtain ⟨q1, q2⟩ := dropR_ok _ _ h9
    obtain ⟨q3, q4⟩ := takeR_ok _ _ h11
    rw [q2, List.length_drop] at q3
    simp only [opG, h1, loadG, readG, h5]
    rw [if_pos h3, if_pos ⟨h7, by omega⟩]
    simp only [Option.bind_some, mk, if_pos, pureG, q4, q2]
  · rename_i n a x
    simp only [Option.some.injEq] at hF; subst hF
    obtain ⟨b, v, o, ext, h1, h2⟩ := V.onPtr_some h
    obtain ⟨h3, h4⟩ := brec_some h2
    obtain ⟨k, h5, h6⟩ := orec_some' h4
    obtain ⟨h7, h8⟩ := brec_some h6
    obtain ⟨l, ver, mn, h9, h10⟩ := cellsOf_some h8
    obtain ⟨h11, h12⟩ := brec_some h10
    obtain ⟨l', h13, h14⟩ := orec_some' h12
    simp only [Option.some.injEq] at h14; subst h14
    rw [rd_ok hE] at h1
    rw [rd_ok hE, V.cellsR_eq] at h5 h13
    have h3 : n ≤ ext := Nat.le_of_ble_eq_true h3
    have h7 := Nat.eq_of_beq_eq_true h7
    have h11 := Nat.eq_of_beq_eq_true h11
    obtain ⟨q1, q2⟩ := lenOne_ok _ h5
    obtain ⟨q3, q4⟩ := splR_ok _ _ _ h13
    simp only [opG, h1, storeG, writeG, h9]
    rw [if_pos ⟨by omega, h3⟩, if_pos ⟨h11, q3, q1⟩, q4]
    rfl
  · rename_i zero ps
    simp only [Option.some.injEq] at hF; subst hF
    obtain ⟨cs, h1, h2⟩ := orec_some' h
    simp only [Option.some.injEq] at h2; subst h2
    simp only [opG, partsR_ok hE _ _ h1, Option.map_some, pureG]
  · rename_i es zero len ps
    cases len with
    | zero => exact absurd (show (none : Option Fast) = some F from hF) (by simp)
    | succ len =>
      have hF : some (⟨fun t _ m => Option.rec none (fun cs => Option.rec none (fun _ => some (.slice m 0 0 (len + 1) es (some (len + 1)), .push (.cells cs 0 0))) (lenOne cs)) ((partsR N d ps).run t (repeatL zero (len + 1)))⟩ : Fast) = some F := hF
      simp only [Option.some.injEq] at hF; subst hF
      obtain ⟨cs, h1, h2⟩ := orec_some' h
      obtain ⟨k, h3, h4⟩ := orec_some' h2
      simp only [Option.some.injEq] at h4; subst h4
      obtain ⟨q1, q2⟩ := lenOne_ok _ h3
      simp only [opG, partsR_ok hE _ _ h1]
      rw [if_neg (by omega), if_pos q1]
  · rename_i x i
    simp only [Option.some.injEq] at hF; subst hF
    obtain ⟨l, h1, h2⟩ := V.onTup_some h
    obtain ⟨v, h3, h4⟩ := orec_some' h2
    rw [rd_ok hE] at h1
    rw [nthR_ok] at h3
    simp only [Option.some.injEq] at h4; subst h4
    simp only [opG, h1, h3, pureG]
  · rename_i len x i
    simp only [Option.some.injEq] at hF; subst hF
    obtain ⟨l, h1, h2⟩ := V.onAgg_some h
    obtain ⟨k', a, h3, h4⟩ := V.onInt_some h2
    obtain ⟨k, rfl, h5⟩ := natOf_some h4
    obtain ⟨h6, h7⟩ := brec_some h5
    obtain ⟨v, h8, h9⟩ := orec_some' h7
    rw [rd_ok hE] at h1 h3
    rw [nthR_ok] at h8
    simp only [Option.some.injEq] at h9; subst h9
    have hk : k < len := Nat.le_of_ble_eq_true h6
    have hl := (List.getElem?_eq_some_iff.1 h8).1
    simp only [opG, h1, h3, indexE, Int.toNat_natCast, Nat.mul_one]
    rw [if_pos ⟨by omega, by omega, by omega⟩, List.drop_eq_getElem_cons hl, (List.getElem?_eq_some_iff.1 h8).2]
    rfl
  · rename_i f a c
    simp only [Option.some.injEq] at hF; subst hF
    simp only [Option.some.injEq] at h; subst h
    simp only [opG]
    rw [rd_fun hE]
  · rename_i k x
    simp only [Option.some.injEq] at hF; subst hF
    simp only [Option.some.injEq] at h; subst h
    simp only [opG]
    rw [rd_ok hE]
  · simp at hF

/-- An operation, staged: its short road first. -/
noncomputable def opQ (N d : Nat) (op : EOp) : RunOp :=
  Option.rec (opR N d op) (fun F => ⟨fun X t H => Option.rec ((opR N d op).run X t H) (fun p => Option.rec none (fun H' => some (p.1, H')) (p.2.onK H)) (F.run t H.get H.n)⟩) (fastG N d op)

theorem opQ_sim {XK : CtxK} {X : Ctx} (hX : Sim XK X) {N d : Nat} {op : EOp} {t : Tr V} {e : Env} {H H' : TH} {L : Heap} {v : V} (hE : EIs N d t e) (hH : HIs H L) (h : (opQ N d op).run XK t H = some (v, H')) :
    ∃ L', evalOp X e L op = some (v, L') ∧ HIs H' L' := by
  unfold opQ at h
  cases hF : fastG N d op with
  | none => rw [hF] at h; exact opR_sim hX hE hH h
  | some F =>
    rw [hF] at h
    have h : (Option.rec (motive := fun _ => Option (V × TH)) ((opR N d op).run XK t H) (fun p => Option.rec (motive := fun _ => Option (V × TH)) none (fun H' => some (p.1, H')) (p.2.onK H)) (F.run t H.get H.n)) = some (v, H') := h
    cases hr : F.run t H.get H.n with
    | none => rw [hr] at h; exact opR_sim hX hE hH h
    | some p =>
      rw [hr] at h
      obtain ⟨H1, h1, h2⟩ := orec_some' (f := fun H' => some (p.1, H')) h
      simp only [Option.some.injEq, Prod.mk.injEq] at h2
      obtain ⟨rfl, rfl⟩ := h2
      rw [hH.got, ← hH.len] at hr
      exact ⟨_, opG_ok (fastG_ok hE hF hr), hH.on h1⟩

end Go.PE
