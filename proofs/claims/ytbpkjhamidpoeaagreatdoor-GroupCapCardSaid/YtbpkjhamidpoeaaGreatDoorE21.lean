/- What the evaluator's run of a region that draws its order gives, operation by operation. Nothing of a program stands here. -/
import Derived.Test.YtbpkjhamidpoeaaGreatDoorE2
import Derived.Test.YtbpkjhamidpoeaaGreatDoorE20
namespace Go.PE

def valOper (X : Ctx) (o : EOper) (e : Env) (H : Heap) : Option (V × Heap) := if o.wanted e then evalOp X e H o.op else some (V.undef, H)

def DK.isW : DK → Bool
  | .W => true
  | _ => false

def cntW (l : List (EOper × DK)) (q : Nat) : Nat := (l.take q).countP fun x => x.2.isW

theorem cntW_zero (l : List (EOper × DK)) : cntW l 0 = 0 := by simp [cntW]

theorem cntW_cons (x : EOper × DK) (l : List (EOper × DK)) (q : Nat) : cntW (x :: l) (q + 1) = cntW l q + (if x.2.isW then 1 else 0) := by
  simp [cntW, List.countP_cons]

theorem cntW_succ {l : List (EOper × DK)} {q : Nat} {x : EOper × DK} (h : l[q]? = some x) : cntW l (q + 1) = cntW l q + (if x.2.isW then 1 else 0) := by
  unfold cntW
  rw [List.take_add_one, h]
  simp only [Option.toList_some, List.countP_append, List.countP_singleton]

section
variable {X : Ctx}

theorem evalOper_val (o : EOper) (e : Env) (H : Heap) : evalOper X o e H = (valOper X o e H).map fun p => (e.put o.dst p.1, p.2) := by
  unfold evalOper valOper
  split <;> rfl

theorem wanted_congr {o : EOper} {e e' : Env} (h : ∀ t ∈ o.tms, e.getD t V.undef = e'.getD t V.undef) : o.wanted e = o.wanted e' := by
  obtain ⟨d, op, g⟩ := o
  cases g with
  | none => rfl
  | some g =>
    obtain ⟨t, w⟩ := g
    simp only [EOper.wanted]
    rw [h t (by simp [EOper.tms])]

theorem valOper_congr {o : EOper} {e e' : Env} {H : Heap} (h : ∀ t ∈ o.tms, e.getD t V.undef = e'.getD t V.undef) : valOper X o e H = valOper X o e' H := by
  unfold valOper
  rw [wanted_congr h, evalOp_congr (e := e) (e' := e') fun t ht => h t (by simp [EOper.tms, ht])]

theorem valOper_grows {o : EOper} {e : Env} {H H1 : Heap} {v : V} (hn : o.op.isWr = false) (h : valOper X o e H = some (v, H1)) : H1 = H ∨ ∃ bx, H1 = H ++ [bx] := by
  unfold valOper at h
  split at h
  · cases hr : o.op.isRd with
    | true => exact .inl (evalOp_reads h hr).1
    | false =>
      cases hw : o.op.isNew with
      | true => exact (evalOp_new h hw).imp (·.1) id
      | false => exact .inl (evalOp_plain h hn hr hw).1
  · simp only [Option.some.injEq, Prod.mk.injEq] at h
    exact .inl h.2.symm

theorem evalDraw_cons {o : EOper} {k : DK} {l : List (EOper × DK)} {e : Env} {H : Heap} {sn : List Heap} {pd : List (Env × EOp × V × Nat × Nat)} {r : Env × Heap × List Heap × List (Env × EOp × V × Nat × Nat)}
    (h : evalDraw X ((o, k) :: l) e H sn pd = some r) :
    ∃ v H1 pd1, valOper X o e H = some (v, H1) ∧ evalDraw X l (e.put o.dst v) H1 (if k.isW then sn ++ [H] else sn) pd1 = some r ∧ (∀ p ∈ pd, p ∈ pd1) ∧
      ∀ lo hi, k = .R lo hi → lo ≠ hi → o.wanted e = true → (e, o.op, v, lo, hi) ∈ pd1 := by
  cases k with
  | N =>
    simp only [evalDraw, evalOper_val, Option.bind_eq_some_iff, Option.map_eq_some_iff] at h
    obtain ⟨_, ⟨⟨v, H1⟩, hv, rfl⟩, h2⟩ := h
    exact ⟨v, H1, pd, hv, h2, fun _ h => h, fun _ _ h => by simp at h⟩
  | W =>
    simp only [evalDraw, evalOper_val, Option.bind_eq_some_iff, Option.map_eq_some_iff] at h
    obtain ⟨_, ⟨⟨v, H1⟩, hv, rfl⟩, h2⟩ := h
    exact ⟨v, H1, pd, hv, h2, fun _ h => h, fun _ _ h => by simp at h⟩
  | R lo hi =>
    simp only [evalDraw] at h
    split at h
    · rename_i hw
      rw [Option.bind_eq_some_iff] at h
      obtain ⟨⟨v, H1⟩, hv, h2⟩ := h
      refine ⟨v, H1, _, by rw [valOper, if_pos hw]; exact hv, h2, fun p hp => ?_, fun lo' hi' hk hne _ => ?_⟩
      · split
        · exact hp
        · exact List.mem_cons_of_mem _ hp
      · simp only [DK.R.injEq] at hk
        obtain ⟨rfl, rfl⟩ := hk
        rw [if_neg hne]
        exact List.mem_cons_self
    · rename_i hw
      refine ⟨V.undef, H, pd, by rw [valOper, if_neg hw], h, fun _ h => h, fun _ _ _ _ hw' => absurd hw' hw⟩

theorem evalDraw_run : ∀ (l : List (EOper × DK)) (e : Env) (H : Heap) (sn : List Heap) (pd : List (Env × EOp × V × Nat × Nat)) (ef : Env) (Hf : Heap) (sn' : List Heap) (pd' : List (Env × EOp × V × Nat × Nat)),
    evalDraw X l e H sn pd = some (ef, Hf, sn', pd') → sn <+: sn' ∧ (∀ p ∈ pd, p ∈ pd') ∧
    ∃ (Es : Nat → Env) (Hs : Nat → Heap) (vs : Nat → V), Es 0 = e ∧ Hs 0 = H ∧ Es l.length = ef ∧ Hs l.length = Hf ∧ sn'[sn.length + cntW l l.length]? = some Hf ∧
      ∀ (q : Nat) (o : EOper) (k : DK), l[q]? = some (o, k) → valOper X o (Es q) (Hs q) = some (vs q, Hs (q + 1)) ∧ Es (q + 1) = (Es q).put o.dst (vs q) ∧
        (k.isW = true → sn'[sn.length + cntW l q]? = some (Hs q)) ∧ (∀ lo hi, k = .R lo hi → lo ≠ hi → o.wanted (Es q) = true → (Es q, o.op, vs q, lo, hi) ∈ pd')
  | [], e, H, sn, pd, ef, Hf, sn', pd', h => by
    simp only [evalDraw, Option.some.injEq, Prod.mk.injEq] at h
    obtain ⟨rfl, rfl, rfl, rfl⟩ := h
    refine ⟨List.prefix_append _ _, fun _ h => h, fun _ => e, fun _ => H, fun _ => V.undef, rfl, rfl, rfl, rfl, by simp [cntW], fun q o k hq => by simp at hq⟩
  | (o, k) :: l, e, H, sn, pd, ef, Hf, sn', pd', h => by
    obtain ⟨v, H1, pd1, hv, h2, hpd, hr⟩ := evalDraw_cons h
    obtain ⟨i1, i2, Es, Hs, vs, i3, i4, i5, i6, i7, i8⟩ := evalDraw_run l _ _ _ _ _ _ _ _ h2
    have hlen : (if k.isW then sn ++ [H] else sn).length = sn.length + (if k.isW then 1 else 0) := by split <;> simp
    have hpre : sn <+: (if k.isW then sn ++ [H] else sn) := by
      split
      · exact List.prefix_append _ _
      · exact List.prefix_refl _
    refine ⟨hpre.trans i1, fun p hp => i2 p (hpd p hp), fun q => match q with | 0 => e | q + 1 => Es q, fun q => match q with | 0 => H | q + 1 => Hs q, fun q => match q with | 0 => v | q + 1 => vs q,
      rfl, rfl, i5, i6, ?_, ?_⟩
    · rw [List.length_cons, cntW_cons]
      rw [hlen] at i7
      simp only at i7 ⊢
      rw [← i7]; congr 1; omega
    · intro q o' k' hq
      cases q with
      | zero =>
        simp only [List.length_cons, List.getElem?_cons_zero, Option.some.injEq, Prod.mk.injEq] at hq
        obtain ⟨rfl, rfl⟩ := hq
        refine ⟨by simp only [i4]; exact hv, i3, fun hw => ?_, fun lo hi hk hne hw => i2 _ (hr lo hi hk hne hw)⟩
        rw [cntW_zero, Nat.add_zero]
        rw [if_pos hw] at i1
        obtain ⟨t, rfl⟩ := i1
        simp
      | succ q =>
        obtain ⟨j1, j2, j3, j4⟩ := i8 q o' k' (by simpa using hq)
        refine ⟨j1, j2, fun hw => ?_, j4⟩
        rw [cntW_cons]
        rw [hlen] at j3
        simp only at j3 ⊢
        rw [← j3 hw]; congr 1; omega

theorem sameRead_at {e : Env} {op : EOp} {v : V} {snaps : List Heap} {lo hi k : Nat} {g : Heap} (h : sameRead X e op v ((snaps.drop lo).take (hi + 1 - lo)) = true) (h1 : lo ≤ k) (h2 : k ≤ hi)
    (hg : snaps[k]? = some g) (hr : op.isRd = true) : evalOp X e g op = some (v, g) := by
  unfold sameRead at h
  rw [List.all_eq_true] at h
  have hm : g ∈ (snaps.drop lo).take (hi + 1 - lo) := by
    refine List.mem_iff_getElem?.2 ⟨k - lo, ?_⟩
    rw [List.getElem?_take, if_pos (by omega), List.getElem?_drop, ← hg]
    congr 1; omega
  have := h g hm
  split at this
  · rename_i v' H1 hv
    have := V.beq_eq _ _ this
    subst this
    rw [hv, (evalOp_reads hv hr).1]
  · simp at this

end
end Go.PE
