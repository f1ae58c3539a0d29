/- Tries, for an environment and a heap that the kernel can turn at small cost. Nothing of a program stands here. -/
import Derived.Test.YtbpkjhamidpoeaaGreatDoorE25
namespace Go.PE

inductive Tr (α : Type) where
  | nil
  | leaf (x : α)
  | node (l r : Tr α)

section
variable {α : Type}

noncomputable def Tr.get (t : Tr α) : Nat → Option α :=
  Tr.rec (motive := fun _ => Nat → Option α) (fun _ => none) (fun x _ => some x) (fun _ _ gl gr i => cond (Nat.beq (Nat.mod i 2) 0) (gl (Nat.div i 2)) (gr (Nat.div i 2))) t

noncomputable def Tr.lt (t : Tr α) : Tr α := Tr.rec (motive := fun _ => Tr α) .nil (fun _ => .nil) (fun l _ _ _ => l) t
noncomputable def Tr.rt (t : Tr α) : Tr α := Tr.rec (motive := fun _ => Tr α) .nil (fun _ => .nil) (fun _ r _ _ => r) t

noncomputable def Tr.set (d : Nat) : Tr α → Nat → α → Tr α :=
  Nat.rec (motive := fun _ => Tr α → Nat → α → Tr α) (fun _ _ x => .leaf x)
    (fun _ ih t i x => cond (Nat.beq (Nat.mod i 2) 0) (.node (ih t.lt (Nat.div i 2) x) t.rt) (.node t.lt (ih t.rt (Nat.div i 2) x))) d

inductive Tr.Wf : Nat → Tr α → Prop
  | nil (d : Nat) : Wf d .nil
  | leaf (x : α) : Wf 0 (.leaf x)
  | node {d : Nat} {l r : Tr α} : Wf d l → Wf d r → Wf (d + 1) (.node l r)

theorem Tr.get_node (l r : Tr α) (i : Nat) : (Tr.node l r).get i = if i % 2 = 0 then l.get (i / 2) else r.get (i / 2) := by
  show cond (Nat.beq (i % 2) 0) (l.get (i / 2)) (r.get (i / 2)) = _
  by_cases h : i % 2 = 0
  · rw [h]; rfl
  · have : Nat.beq (i % 2) 0 = false := by
      cases hb : Nat.beq (i % 2) 0 with
      | false => rfl
      | true => exact absurd (Nat.eq_of_beq_eq_true hb) h
    rw [this, if_neg h]; rfl

theorem Tr.set_succ (d : Nat) (t : Tr α) (i : Nat) (x : α) : Tr.set (d + 1) t i x = if i % 2 = 0 then .node (Tr.set d t.lt (i / 2) x) t.rt else .node t.lt (Tr.set d t.rt (i / 2) x) := by
  show cond (Nat.beq (i % 2) 0) (Tr.node (Tr.set d t.lt (i / 2) x) t.rt) (Tr.node t.lt (Tr.set d t.rt (i / 2) x)) = _
  by_cases h : i % 2 = 0
  · rw [h]; rfl
  · have : Nat.beq (i % 2) 0 = false := by
      cases hb : Nat.beq (i % 2) 0 with
      | false => rfl
      | true => exact absurd (Nat.eq_of_beq_eq_true hb) h
    rw [this, if_neg h]; rfl

theorem Tr.Wf.lt {d : Nat} {t : Tr α} (h : Tr.Wf (d + 1) t) : Tr.Wf d t.lt := by
  cases h with
  | nil => exact .nil d
  | node a b => exact a

theorem Tr.Wf.rt {d : Nat} {t : Tr α} (h : Tr.Wf (d + 1) t) : Tr.Wf d t.rt := by
  cases h with
  | nil => exact .nil d
  | node a b => exact b

theorem Tr.get_of_wf {d : Nat} {t : Tr α} (h : Tr.Wf (d + 1) t) (i : Nat) : t.get i = if i % 2 = 0 then t.lt.get (i / 2) else t.rt.get (i / 2) := by
  cases h with
  | nil => split <;> rfl
  | node a b => exact Tr.get_node _ _ _

theorem Tr.wf_set : ∀ (d : Nat) {t : Tr α} (i : Nat) (x : α), Tr.Wf d t → Tr.Wf d (Tr.set d t i x)
  | 0, _, _, x, _ => .leaf x
  | d + 1, t, i, x, h => by
    rw [Tr.set_succ]
    split
    · exact .node (Tr.wf_set d _ x h.lt) h.rt
    · exact .node h.lt (Tr.wf_set d _ x h.rt)

theorem Tr.get_set : ∀ (d : Nat) {t : Tr α} (i j : Nat) (x : α), Tr.Wf d t → i < 2 ^ d → j < 2 ^ d → (Tr.set d t i x).get j = if j = i then some x else t.get j
  | 0, t, i, j, x, _, hi, hj => by
    have h1 : i = 0 := by simpa using hi
    have h2 : j = 0 := by simpa using hj
    subst h1; subst h2
    rfl
  | d + 1, t, i, j, x, h, hi, hj => by
    rw [Tr.set_succ, Tr.get_of_wf h j]
    have hi' : i / 2 < 2 ^ d := by rw [Nat.pow_succ] at hi; omega
    have hj' : j / 2 < 2 ^ d := by rw [Nat.pow_succ] at hj; omega
    by_cases pi : i % 2 = 0
    · rw [if_pos pi, Tr.get_node]
      by_cases pj : j % 2 = 0
      · rw [if_pos pj, if_pos pj, Tr.get_set d _ _ x h.lt hi' hj']
        by_cases hij : j = i
        · subst hij; simp
        · rw [if_neg (by omega), if_neg hij]
      · rw [if_neg pj, if_neg pj, if_neg (by intro e; rw [e] at pj; exact pj pi)]
    · rw [if_neg pi, Tr.get_node]
      by_cases pj : j % 2 = 0
      · rw [if_pos pj, if_pos pj, if_neg (by intro e; rw [e] at pj; exact pi pj)]
      · rw [if_neg pj, if_neg pj, Tr.get_set d _ _ x h.rt hi' hj']
        by_cases hij : j = i
        · subst hij; simp
        · rw [if_neg (by omega), if_neg hij]

end

/-! ### environments -/

structure EIs (N d : Nat) (t : Tr V) (e : Env) : Prop where
  len : e.length = N
  cap : N ≤ 2 ^ d
  wf : Tr.Wf d t
  get : ∀ i, i < N → (t.get i).getD V.undef = e.getD i V.undef

noncomputable def evK (N : Nat) (t : Tr V) : Opd → V
  | .t n => cond (Nat.blt n N) ((t.get n).getD V.undef) V.undef
  | .c v => v

noncomputable def putK (N d : Nat) (t : Tr V) (dst : Option Nat) (v : V) : Tr V :=
  match dst with
  | none => t
  | some k => cond (Nat.blt k N) (Tr.set d t k v) t

theorem blt_true {a b : Nat} (h : a < b) : Nat.blt a b = true := by
  rw [Nat.blt, Nat.ble_eq]; exact h

theorem blt_false {a b : Nat} (h : ¬ a < b) : Nat.blt a b = false := by
  cases hb : Nat.blt a b with
  | false => rfl
  | true => rw [Nat.blt, Nat.ble_eq] at hb; exact absurd hb h

theorem EIs.ev {N d : Nat} {t : Tr V} {e : Env} (h : EIs N d t e) : evK N t = Opd.ev e := by
  funext x
  cases x with
  | c v => rfl
  | t n =>
    simp only [evK, Opd.ev]
    by_cases hn : n < N
    · rw [blt_true hn]; exact h.get n hn
    · rw [blt_false hn, List.getD_eq_getElem?_getD, List.getElem?_eq_none (by have := h.len; omega)]; rfl

theorem EIs.put {N d : Nat} {t : Tr V} {e : Env} (h : EIs N d t e) (dst : Option Nat) (v : V) : EIs N d (putK N d t dst v) (e.put dst v) := by
  cases dst with
  | none => exact h
  | some k =>
    simp only [putK, Env.put]
    by_cases hk : k < N
    · rw [blt_true hk]
      have hcap := h.cap
      refine ⟨by rw [List.length_set]; exact h.len, hcap, Tr.wf_set d k v h.wf, fun i hi => ?_⟩
      show ((Tr.set d t k v).get i).getD V.undef = _
      rw [Tr.get_set d k i v h.wf (by omega) (by omega)]
      have hlen := h.len
      by_cases hik : i = k
      · subst hik
        rw [if_pos rfl, List.getD_eq_getElem?_getD, List.getElem?_set_self (by omega)]
      · rw [if_neg hik, h.get i hi, List.getD_eq_getElem?_getD, List.getD_eq_getElem?_getD, List.getElem?_set_ne (fun e => hik e.symm)]
    · rw [blt_false hk]
      have : e.set k v = e := List.set_eq_of_length_le (by have := h.len; omega)
      rw [this]; exact h

noncomputable def fromK (d : Nat) (l : List V) : Nat → Tr V → Tr V :=
  List.rec (motive := fun _ => Nat → Tr V → Tr V) (fun _ t => t) (fun v _ ih i t => ih (Nat.add i 1) (Tr.set d t i v)) l

theorem fromK_ok {d : Nat} : ∀ (l : List V) (i : Nat) (t : Tr V), Tr.Wf d t → i + l.length ≤ 2 ^ d → Tr.Wf d (fromK d l i t) ∧
    ∀ j, j < 2 ^ d → (fromK d l i t).get j = if i ≤ j ∧ j < i + l.length then l[j - i]? else t.get j
  | [], i, t, h, _ => ⟨h, fun j _ => by rw [if_neg (by simp)]; rfl⟩
  | v :: l, i, t, h, hc => by
    simp only [List.length_cons] at hc ⊢
    obtain ⟨h1, h2⟩ := fromK_ok l (i + 1) (Tr.set d t i v) (Tr.wf_set d i v h) (by omega)
    refine ⟨h1, fun j hj => ?_⟩
    show (fromK d l (i + 1) (Tr.set d t i v)).get j = _
    rw [h2 j hj]
    by_cases c1 : i + 1 ≤ j ∧ j < i + 1 + l.length
    · rw [if_pos c1, if_pos (by omega)]
      obtain ⟨k, rfl⟩ : ∃ k, j = i + 1 + k := ⟨j - (i + 1), by omega⟩
      rw [show i + 1 + k - (i + 1) = k by omega, show i + 1 + k - i = k + 1 by omega]
      rfl
    · rw [if_neg c1, Tr.get_set d i j v h (by omega) hj]
      by_cases c2 : j = i
      · subst c2; rw [if_pos rfl, if_pos (by omega)]; simp
      · rw [if_neg c2, if_neg (by omega)]

theorem EIs.start {N d : Nat} {args : List V} (h1 : args.length ≤ N) (h2 : N ≤ 2 ^ d) : EIs N d (fromK d args 0 .nil) (args ++ List.replicate (N - args.length) V.undef) := by
  obtain ⟨w, g⟩ := fromK_ok (d := d) args 0 .nil (.nil d) (by omega)
  refine ⟨by simp; omega, h2, w, fun i hi => ?_⟩
  rw [g i (by omega)]
  by_cases c : i < args.length
  · rw [if_pos (by omega), List.getD_eq_getElem?_getD, List.getElem?_append_left c]; rfl
  · rw [if_neg (by omega), List.getD_eq_getElem?_getD, List.getElem?_append_right (by omega), List.getElem?_replicate, if_pos (by omega)]; rfl

/-! ### heaps -/

inductive Tn (α : Type) where
  | nil
  | node (l : Tn α) (x : Option α) (r : Tn α)

section
variable {α : Type}

noncomputable def Tn.get (t : Tn α) : Nat → Option α :=
  Tn.rec (motive := fun _ => Nat → Option α) (fun _ => none)
    (fun _ x _ gl gr i => Nat.rec (motive := fun _ => Option α) x (fun m _ => Bool.rec (motive := fun _ => Option α) (gr (Nat.div m 2)) (gl (Nat.div m 2)) (Nat.beq (Nat.mod m 2) 0)) i) t

noncomputable def Tn.set (d : Nat) : Tn α → Nat → α → Tn α :=
  Nat.rec (motive := fun _ => Tn α → Nat → α → Tn α) (fun t _ _ => t)
    (fun _ ih t i x => Tn.rec (motive := fun _ => Tn α)
      (Nat.rec (motive := fun _ => Tn α) (.node .nil (some x) .nil) (fun m _ => Bool.rec (motive := fun _ => Tn α) (.node .nil none (ih .nil (Nat.div m 2) x)) (.node (ih .nil (Nat.div m 2) x) none .nil) (Nat.beq (Nat.mod m 2) 0)) i)
      (fun l y r _ _ => Nat.rec (motive := fun _ => Tn α) (.node l (some x) r) (fun m _ => Bool.rec (motive := fun _ => Tn α) (.node l y (ih r (Nat.div m 2) x)) (.node (ih l (Nat.div m 2) x) y r) (Nat.beq (Nat.mod m 2) 0)) i) t) d

theorem beq_mod2 (n : Nat) : (n % 2 = 0 ∧ Nat.beq (Nat.mod n 2) 0 = true) ∨ (¬ n % 2 = 0 ∧ Nat.beq (Nat.mod n 2) 0 = false) := by
  by_cases h : n % 2 = 0
  · exact .inl ⟨h, by show Nat.beq (n % 2) 0 = true; rw [h]; rfl⟩
  · refine .inr ⟨h, ?_⟩
    show Nat.beq (n % 2) 0 = false
    cases hb : Nat.beq (n % 2) 0 with
    | false => rfl
    | true => exact absurd (Nat.eq_of_beq_eq_true hb) h

theorem Tn.get_succ (l : Tn α) (y : Option α) (r : Tn α) (m : Nat) : (Tn.node l y r).get (m + 1) = if m % 2 = 0 then l.get (m / 2) else r.get (m / 2) := by
  show (Bool.rec (motive := fun _ => Option α) (r.get (Nat.div m 2)) (l.get (Nat.div m 2)) (Nat.beq (Nat.mod m 2) 0)) = _
  rcases beq_mod2 m with ⟨h1, h2⟩ | ⟨h1, h2⟩
  · rw [h2, if_pos h1]; rfl
  · rw [h2, if_neg h1]; rfl

theorem Tn.set_nil_succ (d : Nat) (m : Nat) (x : α) : Tn.set (d + 1) .nil (m + 1) x = if m % 2 = 0 then .node (Tn.set d .nil (m / 2) x) none .nil else .node .nil none (Tn.set d .nil (m / 2) x) := by
  show (Bool.rec (motive := fun _ => Tn α) (.node .nil none (Tn.set d .nil (Nat.div m 2) x)) (.node (Tn.set d .nil (Nat.div m 2) x) none .nil) (Nat.beq (Nat.mod m 2) 0)) = _
  rcases beq_mod2 m with ⟨h1, h2⟩ | ⟨h1, h2⟩
  · rw [h2, if_pos h1]; rfl
  · rw [h2, if_neg h1]; rfl

theorem Tn.set_node_succ (d : Nat) (l : Tn α) (y : Option α) (r : Tn α) (m : Nat) (x : α) : Tn.set (d + 1) (.node l y r) (m + 1) x = if m % 2 = 0 then .node (Tn.set d l (m / 2) x) y r else .node l y (Tn.set d r (m / 2) x) := by
  show (Bool.rec (motive := fun _ => Tn α) (.node l y (Tn.set d r (Nat.div m 2) x)) (.node (Tn.set d l (Nat.div m 2) x) y r) (Nat.beq (Nat.mod m 2) 0)) = _
  rcases beq_mod2 m with ⟨h1, h2⟩ | ⟨h1, h2⟩
  · rw [h2, if_pos h1]; rfl
  · rw [h2, if_neg h1]; rfl

theorem Tn.get_set : ∀ (d : Nat) {t : Tn α} (i j : Nat) (x : α), i + 1 < 2 ^ d → (Tn.set d t i x).get j = if j = i then some x else t.get j
  | 0, t, i, j, x, h => by simp at h
  | d + 1, .nil, 0, j, x, h => by
    cases j with
    | zero => rfl
    | succ j =>
      rw [if_neg (by omega)]
      show (Tn.node Tn.nil (some x) Tn.nil).get (j + 1) = none
      rw [Tn.get_succ]
      split <;> rfl
  | d + 1, .node l y r, 0, j, x, h => by
    cases j with
    | zero => rfl
    | succ j =>
      rw [if_neg (by omega)]
      show (Tn.node l (some x) r).get (j + 1) = _
      rw [Tn.get_succ, Tn.get_succ]
  | d + 1, .nil, m + 1, j, x, h => by
    have hm : m / 2 + 1 < 2 ^ d := by rw [Nat.pow_succ] at h; omega
    rw [Tn.set_nil_succ]
    cases j with
    | zero => rw [if_neg (show ¬ (0 = m + 1) by omega)]; split <;> rfl
    | succ j =>
      have hnil : ∀ k, (Tn.nil : Tn α).get k = none := fun _ => rfl
      split
      · rw [Tn.get_succ]
        split
        · rw [Tn.get_set d (m / 2) (j / 2) x hm]
          by_cases c : j = m
          · subst c; simp
          · rw [if_neg (by omega), if_neg (by omega), hnil, hnil]
        · rw [if_neg (by omega), hnil, hnil]
      · rw [Tn.get_succ]
        split
        · rw [if_neg (by omega), hnil, hnil]
        · rw [Tn.get_set d (m / 2) (j / 2) x hm]
          by_cases c : j = m
          · subst c; simp
          · rw [if_neg (by omega), if_neg (by omega), hnil, hnil]
  | d + 1, .node l y r, m + 1, j, x, h => by
    have hm : m / 2 + 1 < 2 ^ d := by rw [Nat.pow_succ] at h; omega
    rw [Tn.set_node_succ]
    cases j with
    | zero => rw [if_neg (show ¬ (0 = m + 1) by omega)]; split <;> rfl
    | succ j =>
      rw [Tn.get_succ]
      split
      · rw [Tn.get_succ]
        split
        · rw [Tn.get_set d (m / 2) (j / 2) x hm]
          by_cases c : j = m
          · subst c; simp
          · rw [if_neg (by omega), if_neg (by omega)]
        · rw [if_neg (by omega)]
      · rw [Tn.get_succ]
        split
        · rw [if_neg (by omega)]
        · rw [Tn.get_set d (m / 2) (j / 2) x hm]
          by_cases c : j = m
          · subst c; simp
          · rw [if_neg (by omega), if_neg (by omega)]

end

structure TH where
  t : Tn Box
  n : Nat

noncomputable def TH.get (H : TH) (b : Nat) : Option Box := H.t.get b

noncomputable def Upd.onK (H : TH) (u : Upd) : Option TH :=
  match u with
  | .same => some H
  | .push x => cond (Nat.blt H.n 65536) (some ⟨Tn.set 17 H.t H.n x, Nat.add H.n 1⟩) none
  | .put b x => cond (Nat.blt b H.n) (some ⟨Tn.set 17 H.t b x, H.n⟩) none

structure HIs (H : TH) (L : Heap) : Prop where
  len : L.length = H.n
  cap : H.n ≤ 65536
  get : ∀ b, H.t.get b = L[b]?

theorem HIs.got {H : TH} {L : Heap} (h : HIs H L) : H.get = (L[·]?) := funext h.get

theorem HIs.empty : HIs ⟨.nil, 0⟩ [] := ⟨rfl, Nat.zero_le _, fun _ => rfl⟩

theorem HIs.on {H H' : TH} {L : Heap} (h : HIs H L) {u : Upd} (hu : u.onK H = some H') : HIs H' (u.on L) := by
  have hlen := h.len
  have hcap := h.cap
  cases u with
  | same => simp only [Upd.onK, Option.some.injEq] at hu; subst hu; exact h
  | push x =>
    simp only [Upd.onK] at hu
    by_cases hn : H.n < 65536
    · rw [blt_true hn] at hu
      simp only [cond_true, Option.some.injEq] at hu; subst hu
      refine ⟨by simp [Upd.on, hlen], hn, fun b => ?_⟩
      show (Tn.set 17 H.t H.n x).get b = (L ++ [x])[b]?
      rw [Tn.get_set 17 _ _ x (by omega)]
      by_cases c : b = H.n
      · subst c; rw [if_pos rfl, ← hlen]; simp
      · rw [if_neg c, h.get b]
        by_cases c2 : b < L.length
        · rw [List.getElem?_append_left c2]
        · rw [List.getElem?_eq_none (by omega), List.getElem?_eq_none (by simp; omega)]
    · rw [blt_false hn] at hu; simp at hu
  | put k x =>
    simp only [Upd.onK] at hu
    by_cases hk : k < H.n
    · rw [blt_true hk] at hu
      simp only [cond_true, Option.some.injEq] at hu; subst hu
      refine ⟨by simp [Upd.on, hlen], hcap, fun b => ?_⟩
      show (Tn.set 17 H.t k x).get b = (L.set k x)[b]?
      rw [Tn.get_set 17 _ _ x (by omega)]
      by_cases c : b = k
      · subst c; rw [if_pos rfl, List.getElem?_set_self (by omega)]
      · rw [if_neg c, h.get b, List.getElem?_set_ne (fun e => c e.symm)]
    · rw [blt_false hk] at hu; simp at hu

end Go.PE
