/- The staged evaluator over code, functions, a whole program: it answers what the evaluator answers. Nothing of a program stands here. -/
import Derived.Test.YtbpkjhamidpoeaaGreatDoorE28B
namespace Go.PE

noncomputable def wantR (N d : Nat) (g : Option (Nat × Bool)) : Fx (Tr V → Bool) :=
  match g with
  | none => ⟨fun _ => true⟩
  | some p => ⟨fun t => match (rd N d (.t p.1)).run t with | .bool b => b == p.2 | _ => false⟩

abbrev RunOps := Fx (CtxK → Tr V → TH → Option (Tr V × TH))

noncomputable def operR (N d : Nat) (o : EOper) : RunOps :=
  match o.guard with
  | none => ⟨fun X t H => Option.rec none (fun p => some ((pt N d o.dst).run t p.1, p.2)) ((opQ N d o.op).run X t H)⟩
  | some _ => ⟨fun X t H => Bool.rec (some ((pt N d o.dst).run t V.undef, H)) (Option.rec none (fun p => some ((pt N d o.dst).run t p.1, p.2)) ((opQ N d o.op).run X t H)) ((wantR N d o.guard).run t)⟩

noncomputable def opsR (N d : Nat) (l : List EOper) : RunOps :=
  List.rec (motive := fun _ => RunOps) ⟨fun _ t H => some (t, H)⟩ (fun o _ ih => ⟨fun X t H => Option.rec none (fun p => ih.run X p.1 p.2) ((operR N d o).run X t H)⟩) l

abbrev RunDr := Fx (CtxK → Tr V → TH → List TH → List (Tr V × EOp × V × Nat × Nat) → Option DrK)

noncomputable def drawR (N d : Nat) (l : List (EOper × DK)) : RunDr :=
  List.rec (motive := fun _ => RunDr) ⟨fun _ t H sn pd => some (t, H, sn ++ [H], pd)⟩
    (fun o _ ih =>
      match o.2 with
      | .N => ⟨fun X t H sn pd => Option.rec none (fun p => ih.run X p.1 p.2 sn pd) ((operR N d o.1).run X t H)⟩
      | .W => ⟨fun X t H sn pd => Option.rec none (fun p => ih.run X p.1 p.2 (sn ++ [H]) pd) ((operR N d o.1).run X t H)⟩
      | .R lo hi => ⟨fun X t H sn pd =>
        Bool.rec (ih.run X ((pt N d o.1.dst).run t V.undef) H sn pd)
          (Option.rec none (fun p => ih.run X ((pt N d o.1.dst).run t p.1) p.2 sn (Bool.rec ((t, o.1.op, p.1, lo, hi) :: pd) pd (Nat.beq lo hi))) ((opQ N d o.1.op).run X t H))
          ((wantR N d o.1.guard).run t)⟩) l

noncomputable def sameR (X : CtxK) (N d : Nat) (t : Tr V) (op : EOp) (v : V) (sn : List TH) : Bool :=
  sn.all fun H => match (opQ N d op).run X t H with | some p => V.beq v p.1 | none => false

noncomputable def drawOkR (X : CtxK) (N d : Nat) (sn : List TH) (pd : List (Tr V × EOp × V × Nat × Nat)) : Bool :=
  pd.all fun p => sameR X N d p.1 p.2.1 p.2.2.1 ((sn.drop p.2.2.2.1).take (p.2.2.2.2 + 1 - p.2.2.2.1))

abbrev RunC := Fx (CtxK → Nat → Tr V → TH → Option (Ex × Tr V × TH))

noncomputable def Ex.onK (α : Type) (x : Ex) : α → (Nat → α) → α → α := Ex.rec (fun a _ _ => a) (fun id _ b _ => b id) (fun _ _ c => c) x

noncomputable def codeR (N d : Nat) (c : ECode) : RunC :=
  ECode.rec (motive := fun _ => RunC)
    ⟨fun _ _ t H => some (.normal, t, H)⟩
    (fun l => ⟨fun X _ t H => Option.rec none (fun p => some (.normal, p)) ((opsR N d l).run X t H)⟩)
    (fun l => ⟨fun X _ t H => Option.rec none (fun p => Bool.rec none (some (.normal, p.1, p.2.1)) (drawOkR X N d p.2.2.1 p.2.2.2)) ((drawR N d l).run X t H [] [])⟩)
    (fun _ _ ia ib => ⟨fun X fuel t H => Option.rec none (fun p => p.1.onK _ (ib.run X fuel p.2.1 p.2.2) (fun id => some (.exit id, p.2)) (some (.ret, p.2))) (ia.run X fuel t H)⟩)
    (fun c _ _ ia ib => ⟨fun X fuel t H => ((rd N d c).run t).onBool _ fun b => Bool.rec (ib.run X fuel t H) (ia.run X fuel t H) b⟩)
    (fun id _ ic => ⟨fun X fuel t H => Option.rec none (fun p => p.1.onK _ (some (.normal, p.2)) (fun i => some (Bool.rec (.exit i) .normal (Nat.beq i id), p.2)) (some (.ret, p.2))) (ic.run X fuel t H)⟩)
    (fun _ ic => ⟨fun X fuel t H => loopK (fun t H => ic.run X fuel t H) fuel t H⟩)
    (fun id => ⟨fun _ _ t H => some (.exit id, t, H)⟩)
    ⟨fun _ _ t H => some (.ret, t, H)⟩
    ⟨fun _ _ _ _ => none⟩ c

abbrev RunF := Fx (CtxK → Nat → List V → TH → Option (V × TH))

noncomputable def funcR (f : EFunc) : RunF :=
  Bool.rec ⟨fun _ _ _ _ => none⟩
    ⟨fun X fuel args H => Bool.rec none
      (Option.rec none (fun p => p.1.onK _
          (Option.rec none (fun v => some (v, p.2.2)) (resultsG f.results (fun x => (rd f.ntmps (depthK f.ntmps) x).run p.2.1) p.2.2.get))
          (fun _ => none)
          (Option.rec none (fun v => some (v, p.2.2)) (resultsG f.results (fun x => (rd f.ntmps (depthK f.ntmps) x).run p.2.1) p.2.2.get)))
        ((codeR f.ntmps (depthK f.ntmps) f.body).run X fuel (fromK (depthK f.ntmps) args 0 .nil) H))
      (Nat.ble args.length f.ntmps)⟩
    (Nat.ble f.ntmps (2 ^ depthK f.ntmps))

/-- The functions of a program, staged. -/
noncomputable def stage (fs : FuncId → Option EFunc) (f : FuncId) : Fx (Option RunF) := ⟨Option.rec none (fun ef => some (funcR ef)) (fs f)⟩

/-- The staged functions by their numbers: what comes out is the same closed term each time. -/
noncomputable def stages (fs : FuncId → Option EFunc) (d : Nat) : Nat → Nat → Tn (Option RunF) :=
  Nat.rec (motive := fun _ => Nat → Nat → Tn (Option RunF)) (fun _ _ => .nil)
    (fun _ ih s o => .node (ih (Nat.mul 2 s) (Nat.add s o)) (some (stage fs o).run) (ih (Nat.mul 2 s) (Nat.add (Nat.mul 2 s) o))) d

theorem stages_ok {fs : FuncId → Option EFunc} : ∀ (d s o k : Nat) {r : Option RunF}, (stages fs d s o).get k = some r → r = (stage fs (s * k + o)).run
  | 0, s, o, k, r, h => by
    have h : (none : Option (Option RunF)) = some r := h
    simp at h
  | d + 1, s, o, 0, r, h => by
    have h : some (stage fs o).run = some r := h
    simp only [Option.some.injEq] at h
    rw [← h, Nat.mul_zero, Nat.zero_add]
  | d + 1, s, o, m + 1, r, h => by
    have h : (Tn.node (stages fs d (2 * s) (s + o)) (some (stage fs o).run) (stages fs d (2 * s) (2 * s + o))).get (m + 1) = some r := h
    rw [Tn.get_succ] at h
    split at h
    · rename_i he
      rw [stages_ok d _ _ _ h]
      congr 2
      obtain ⟨q, rfl⟩ : ∃ q, m = 2 * q := ⟨m / 2, by omega⟩
      have e : 2 * q / 2 = q := by omega
      have e2 : 2 * s * q = s * (2 * q) := by rw [Nat.mul_comm 2 s, Nat.mul_assoc]
      rw [e, e2, Nat.mul_add s (2 * q) 1, Nat.mul_one, Nat.add_assoc]
    · rename_i he
      rw [stages_ok d _ _ _ h]
      congr 2
      obtain ⟨q, rfl⟩ : ∃ q, m = 2 * q + 1 := ⟨m / 2, by omega⟩
      have e : (2 * q + 1) / 2 = q := by omega
      have e2 : 2 * s * q = s * (2 * q) := by rw [Nat.mul_comm 2 s, Nat.mul_assoc]
      rw [e, e2, show 2 * q + 1 + 1 = 2 * q + 2 from rfl, Nat.mul_add s (2 * q) 2, Nat.mul_comm 2 s, Nat.add_assoc]

noncomputable def ctxR (fs : FuncId → Option EFunc) (T : FuncId → List V → Option V) (rounds : Nat) (d : Nat) : CtxK :=
  Nat.rec (motive := fun _ => CtxK) (fun _ _ _ => none)
    (fun _ ih f args H => Option.rec (Option.rec none (fun r => Option.rec none (fun r => r.run ih rounds args H) r) ((stages fs 10 1 0).get f)) (fun v => some (v, H)) (T f args)) d

section
variable {XK : CtxK} {X : Ctx}

theorem wantR_eq {N d : Nat} {t : Tr V} {e : Env} (hE : EIs N d t e) (o : EOper) : (wantR N d o.guard).run t = o.wanted e := by
  rw [← wantedK_eq]
  cases o.guard with
  | none => rfl
  | some p =>
    show (match (rd N d (.t p.1)).run t with | .bool b => b == p.2 | _ => false) = _
    rw [rd_ok hE]; rfl

theorem orec_some {α β : Type} {r : β} {x : Option α} {f : α → Option β} (h : (Option.rec (motive := fun _ => Option β) none f x) = some r) : ∃ y, x = some y ∧ f y = some r := by
  cases x with
  | none => exact absurd (show (none : Option β) = some r from h) (by simp)
  | some y => exact ⟨y, rfl, h⟩

theorem operR_sim (hX : Sim XK X) {o : EOper} {N d : Nat} {t t' : Tr V} {e : Env} {H H' : TH} {L : Heap} (hE : EIs N d t e) (hH : HIs H L) (h : (operR N d o).run XK t H = some (t', H')) :
    ∃ e' L', evalOper X o e L = some (e', L') ∧ EIs N d t' e' ∧ HIs H' L' := by
  have main : ∀ r : Tr V × TH, (Option.rec (motive := fun _ => Option (Tr V × TH)) none (fun p => some ((pt N d o.dst).run t p.1, p.2)) ((opQ N d o.op).run XK t H)) = some r → o.wanted e = true →
      ∃ e' L', evalOper X o e L = some (e', L') ∧ EIs N d r.1 e' ∧ HIs r.2 L' := by
    intro r hr hw
    obtain ⟨p, h1, h2⟩ := orec_some hr
    simp only [Option.some.injEq] at h2
    subst h2
    obtain ⟨L', h3, h4⟩ := opQ_sim hX hE hH (v := p.1) (H' := p.2) h1
    exact ⟨_, L', by rw [evalOper, if_pos hw, h3]; rfl, pt_ok hE _ _, h4⟩
  unfold operR at h
  split at h
  · rename_i hg
    exact main (t', H') h (by unfold EOper.wanted; rw [hg])
  · rename_i g hg
    dsimp only at h
    rw [wantR_eq hE] at h
    cases hw : o.wanted e with
    | true => rw [hw] at h; exact main (t', H') h hw
    | false =>
      rw [hw] at h
      have h : some ((pt N d o.dst).run t V.undef, H) = some (t', H') := h
      simp only [Option.some.injEq, Prod.mk.injEq] at h
      obtain ⟨rfl, rfl⟩ := h
      exact ⟨_, L, by rw [evalOper, if_neg (by simp [hw])], pt_ok hE _ _, hH⟩

theorem opsR_sim (hX : Sim XK X) {N d : Nat} : ∀ (l : List EOper) {t t' : Tr V} {e : Env} {H H' : TH} {L : Heap}, EIs N d t e → HIs H L → (opsR N d l).run XK t H = some (t', H') →
    ∃ e' L', evalOps X l e L = some (e', L') ∧ EIs N d t' e' ∧ HIs H' L'
  | [], t, t', e, H, H', L, hE, hH, h => by
    have h : some (t, H) = some (t', H') := h
    simp only [Option.some.injEq, Prod.mk.injEq] at h
    obtain ⟨rfl, rfl⟩ := h
    exact ⟨e, L, rfl, hE, hH⟩
  | o :: l, t, t', e, H, H', L, hE, hH, h => by
    have h : (Option.rec (motive := fun _ => Option (Tr V × TH)) none (fun p => (opsR N d l).run XK p.1 p.2) ((operR N d o).run XK t H)) = some (t', H') := h
    obtain ⟨p, hp, h⟩ := orec_some h
    obtain ⟨e1, L1, h1, h2, h3⟩ := operR_sim hX hE hH (t' := p.1) (H' := p.2) hp
    obtain ⟨e2, L2, h4, h5, h6⟩ := opsR_sim hX l h2 h3 h
    exact ⟨e2, L2, by simp only [evalOps, h1, Option.bind_some]; exact h4, h5, h6⟩

theorem sameR_sim (hX : Sim XK X) {N d : Nat} {t : Tr V} {e : Env} (hE : EIs N d t e) {op : EOp} {v : V} : ∀ {sn : List TH} {sn' : List Heap}, SnIs sn sn' → sameR XK N d t op v sn = true → sameRead X e op v sn' = true
  | _, _, .nil, _ => rfl
  | _, _, .cons hH k, h => by
    simp only [sameR, List.all_cons, Bool.and_eq_true] at h
    simp only [sameRead, List.all_cons, Bool.and_eq_true]
    refine ⟨?_, sameR_sim hX hE k (by simp only [sameR]; exact h.2)⟩
    have h1 := h.1
    split at h1
    · rename_i p hp
      obtain ⟨L', h2, _⟩ := opQ_sim hX hE hH (v := p.1) (H' := p.2) hp
      rw [h2]; exact h1
    · simp at h1

theorem drawOkR_sim (hX : Sim XK X) {N d : Nat} {sn : List TH} {sn' : List Heap} (hs : SnIs sn sn') : ∀ {pd : List (Tr V × EOp × V × Nat × Nat)} {pd' : List (Env × EOp × V × Nat × Nat)}, PdIs N d pd pd' →
    drawOkR XK N d sn pd = true → drawOk X sn' pd' = true
  | _, _, .nil, _ => rfl
  | _, _, .cons (x := x) hE k, h => by
    obtain ⟨op, v, lo, hi⟩ := x
    simp only [drawOkR, List.all_cons, Bool.and_eq_true] at h
    simp only [drawOk, List.all_cons, Bool.and_eq_true]
    exact ⟨sameR_sim hX hE ((hs.drop lo).take _) h.1, drawOkR_sim hX hs k (by simp only [drawOkR]; exact h.2)⟩

theorem drawR_sim (hX : Sim XK X) {N d : Nat} : ∀ (l : List (EOper × DK)) {t : Tr V} {e : Env} {H : TH} {L : Heap} {sn : List TH} {sn' : List Heap} {pd : List (Tr V × EOp × V × Nat × Nat)}
    {pd' : List (Env × EOp × V × Nat × Nat)} {r : DrK}, EIs N d t e → HIs H L → SnIs sn sn' → PdIs N d pd pd' → (drawR N d l).run XK t H sn pd = some r →
    ∃ e' L' s' p', evalDraw X l e L sn' pd' = some (e', L', s', p') ∧ EIs N d r.1 e' ∧ HIs r.2.1 L' ∧ SnIs r.2.2.1 s' ∧ PdIs N d r.2.2.2 p'
  | [], t, e, H, L, sn, sn', pd, pd', r, hE, hH, hs, hp, h => by
    have h : some (t, H, sn ++ [H], pd) = some r := h
    simp only [Option.some.injEq] at h; subst h
    exact ⟨e, L, sn' ++ [L], pd', rfl, hE, hH, hs.snoc hH, hp⟩
  | (o, k) :: l, t, e, H, L, sn, sn', pd, pd', r, hE, hH, hs, hp, h => by
    cases k with
    | N =>
      have h : (Option.rec (motive := fun _ => Option DrK) none (fun p => (drawR N d l).run XK p.1 p.2 sn pd) ((operR N d o).run XK t H)) = some r := h
      obtain ⟨p, hop, h⟩ := orec_some h
      obtain ⟨e1, L1, h1, h2, h3⟩ := operR_sim hX hE hH (t' := p.1) (H' := p.2) hop
      obtain ⟨e2, L2, s2, p2, h4, h5⟩ := drawR_sim hX l h2 h3 hs hp h
      exact ⟨e2, L2, s2, p2, by simp only [evalDraw, h1, Option.bind_some]; exact h4, h5⟩
    | W =>
      have h : (Option.rec (motive := fun _ => Option DrK) none (fun p => (drawR N d l).run XK p.1 p.2 (sn ++ [H]) pd) ((operR N d o).run XK t H)) = some r := h
      obtain ⟨p, hop, h⟩ := orec_some h
      obtain ⟨e1, L1, h1, h2, h3⟩ := operR_sim hX hE hH (t' := p.1) (H' := p.2) hop
      obtain ⟨e2, L2, s2, p2, h4, h5⟩ := drawR_sim hX l h2 h3 (hs.snoc hH) hp h
      exact ⟨e2, L2, s2, p2, by simp only [evalDraw, h1, Option.bind_some]; exact h4, h5⟩
    | R lo hi =>
      have h : (Bool.rec (motive := fun _ => Option DrK) ((drawR N d l).run XK ((pt N d o.dst).run t V.undef) H sn pd)
          (Option.rec (motive := fun _ => Option DrK) none (fun p => (drawR N d l).run XK ((pt N d o.dst).run t p.1) p.2 sn (Bool.rec (motive := fun _ => List (Tr V × EOp × V × Nat × Nat)) ((t, o.op, p.1, lo, hi) :: pd) pd (Nat.beq lo hi))) ((opQ N d o.op).run XK t H))
          ((wantR N d o.guard).run t)) = some r := h
      rw [wantR_eq hE] at h
      simp only [evalDraw]
      cases hw : o.wanted e with
      | true =>
        rw [hw] at h
        rw [if_pos rfl]
        obtain ⟨p, hop, h⟩ := orec_some h
        obtain ⟨L1, h1, h3⟩ := opQ_sim hX hE hH (v := p.1) (H' := p.2) hop
        rw [h1]
        simp only [Option.bind_some]
        by_cases hne : lo = hi
        · subst hne
          rw [if_pos rfl]
          rw [show Nat.beq lo lo = true from Nat.beq_refl lo] at h
          exact drawR_sim hX l (pt_ok hE _ _) h3 hs hp h
        · rw [if_neg hne]
          have : Nat.beq lo hi = false := by
            cases hb : Nat.beq lo hi with
            | false => rfl
            | true => exact absurd (Nat.eq_of_beq_eq_true hb) hne
          rw [this] at h
          exact drawR_sim hX l (pt_ok hE _ _) h3 hs (.cons hE hp) h
      | false =>
        rw [hw] at h
        rw [if_neg (by simp)]
        exact drawR_sim hX l (pt_ok hE _ _) hH hs hp h

theorem codeR_sim (hX : Sim XK X) {N d : Nat} (fuel : Nat) : ∀ (c : ECode), SimC N d (fun t H => (codeR N d c).run XK fuel t H) (evalCode X fuel c)
  | .skip => by
    intro t t' e H H' L x hE hH h
    have h : some (Ex.normal, t, H) = some (x, t', H') := h
    simp only [Option.some.injEq, Prod.mk.injEq] at h
    obtain ⟨rfl, rfl, rfl⟩ := h
    exact ⟨e, L, rfl, hE, hH⟩
  | .ops l => by
    intro t t' e H H' L x hE hH h
    obtain ⟨p, hp, h⟩ := orec_some (f := fun p => some (Ex.normal, p)) h
    simp only [Option.some.injEq, Prod.mk.injEq] at h
    obtain ⟨rfl, rfl⟩ := h
    obtain ⟨e1, L1, h1, h2, h3⟩ := opsR_sim hX l hE hH hp
    exact ⟨e1, L1, by simp only [evalCode, h1]; rfl, h2, h3⟩
  | .draw l => by
    intro t t' e H H' L x hE hH h
    obtain ⟨p, hp, h⟩ := orec_some (f := fun (p : DrK) => Bool.rec (motive := fun _ => Option (Ex × Tr V × TH)) none (some (.normal, p.1, p.2.1)) (drawOkR XK N d p.2.2.1 p.2.2.2)) h
    obtain ⟨e1, L1, s1, p1, h1, h2, h3, h4, h5⟩ := drawR_sim hX l hE hH .nil .nil hp
    cases hd : drawOkR XK N d p.2.2.1 p.2.2.2 with
    | false => rw [hd] at h; exact absurd (show (none : Option (Ex × Tr V × TH)) = some (x, t', H') from h) (by simp)
    | true =>
      rw [hd] at h
      have h : some (Ex.normal, p.1, p.2.1) = some (x, t', H') := h
      simp only [Option.some.injEq, Prod.mk.injEq] at h
      obtain ⟨rfl, rfl, rfl⟩ := h
      exact ⟨e1, L1, by simp only [evalCode, h1]; rw [if_pos (drawOkR_sim hX h4 h5 hd)], h2, h3⟩
  | .seq a b => by
    intro t t' e H H' L x hE hH h
    obtain ⟨p, hp, h⟩ := orec_some (f := fun (p : Ex × Tr V × TH) => p.1.onK (Option (Ex × Tr V × TH)) ((codeR N d b).run XK fuel p.2.1 p.2.2) (fun id => some (.exit id, p.2)) (some (.ret, p.2))) h
    obtain ⟨x1, t1, H1⟩ := p
    obtain ⟨e1, L1, h1, h2, h3⟩ := codeR_sim hX fuel a t t1 e H H1 L x1 hE hH hp
    simp only [evalCode, h1]
    cases x1 with
    | normal => exact codeR_sim hX fuel b t1 t' e1 H1 H' L1 x h2 h3 h
    | exit id =>
      have h : some (Ex.exit id, t1, H1) = some (x, t', H') := h
      simp only [Option.some.injEq, Prod.mk.injEq] at h
      obtain ⟨rfl, rfl, rfl⟩ := h
      exact ⟨e1, L1, rfl, h2, h3⟩
    | ret =>
      have h : some (Ex.ret, t1, H1) = some (x, t', H') := h
      simp only [Option.some.injEq, Prod.mk.injEq] at h
      obtain ⟨rfl, rfl, rfl⟩ := h
      exact ⟨e1, L1, rfl, h2, h3⟩
  | .cond c a b => by
    intro t t' e H H' L x hE hH h
    obtain ⟨v, hv, h⟩ := V.onBool_some (v := (rd N d c).run t) (c := fun b' => Bool.rec (motive := fun _ => Option (Ex × Tr V × TH)) ((codeR N d b).run XK fuel t H) ((codeR N d a).run XK fuel t H) b') h
    rw [rd_ok hE] at hv
    simp only [evalCode, hv]
    cases v with
    | true => exact codeR_sim hX fuel a t t' e H H' L x hE hH h
    | false => exact codeR_sim hX fuel b t t' e H H' L x hE hH h
  | .block id c => by
    intro t t' e H H' L x hE hH h
    obtain ⟨p, hp, h⟩ := orec_some (f := fun (p : Ex × Tr V × TH) => p.1.onK (Option (Ex × Tr V × TH)) (some (.normal, p.2)) (fun i => some (Bool.rec (motive := fun _ => Ex) (.exit i) .normal (Nat.beq i id), p.2)) (some (.ret, p.2))) h
    obtain ⟨x1, t1, H1⟩ := p
    obtain ⟨e1, L1, h1, h2, h3⟩ := codeR_sim hX fuel c t t1 e H H1 L x1 hE hH hp
    simp only [evalCode, h1]
    cases x1 with
    | normal =>
      have h : some (Ex.normal, t1, H1) = some (x, t', H') := h
      simp only [Option.some.injEq, Prod.mk.injEq] at h
      obtain ⟨rfl, rfl, rfl⟩ := h
      exact ⟨e1, L1, rfl, h2, h3⟩
    | exit i =>
      have h : some ((Bool.rec (motive := fun _ => Ex) (Ex.exit i) Ex.normal (Nat.beq i id)), t1, H1) = some (x, t', H') := h
      simp only [Option.some.injEq, Prod.mk.injEq] at h
      obtain ⟨rfl, rfl, rfl⟩ := h
      refine ⟨e1, L1, ?_, h2, h3⟩
      by_cases hi : i = id
      · subst hi
        rw [show Nat.beq i i = true from Nat.beq_refl i]; simp
      · have : Nat.beq i id = false := by
          cases hb : Nat.beq i id with
          | false => rfl
          | true => exact absurd (Nat.eq_of_beq_eq_true hb) hi
        rw [this]; simp [hi]
    | ret =>
      have h : some (Ex.ret, t1, H1) = some (x, t', H') := h
      simp only [Option.some.injEq, Prod.mk.injEq] at h
      obtain ⟨rfl, rfl, rfl⟩ := h
      exact ⟨e1, L1, rfl, h2, h3⟩
  | .loop c => by
    intro t t' e H H' L x hE hH h
    exact loopK_sim (codeR_sim hX fuel c) fuel t t' e H H' L x hE hH h
  | .exit id => by
    intro t t' e H H' L x hE hH h
    have h : some (Ex.exit id, t, H) = some (x, t', H') := h
    simp only [Option.some.injEq, Prod.mk.injEq] at h
    obtain ⟨rfl, rfl, rfl⟩ := h
    exact ⟨e, L, rfl, hE, hH⟩
  | .ret => by
    intro t t' e H H' L x hE hH h
    have h : some (Ex.ret, t, H) = some (x, t', H') := h
    simp only [Option.some.injEq, Prod.mk.injEq] at h
    obtain ⟨rfl, rfl, rfl⟩ := h
    exact ⟨e, L, rfl, hE, hH⟩
  | .fail => by
    intro t t' e H H' L x hE hH h
    have h : (none : Option (Ex × Tr V × TH)) = some (x, t', H') := h
    simp at h

theorem funcR_sim (hX : Sim XK X) {f : EFunc} {fuel : Nat} {args : List V} {H H' : TH} {L : Heap} {v : V} (hH : HIs H L) (h : (funcR f).run XK fuel args H = some (v, H')) :
    ∃ L', evalFunc X fuel f args L = some (v, L') ∧ HIs H' L' := by
  unfold funcR at h
  cases hc2 : Nat.ble f.ntmps (2 ^ depthK f.ntmps) with
  | false => rw [hc2] at h; exact absurd (show (none : Option (V × TH)) = some (v, H') from h) (by simp)
  | true =>
    rw [hc2] at h
    dsimp only at h
    cases hc1 : Nat.ble args.length f.ntmps with
    | false => rw [hc1] at h; exact absurd (show (none : Option (V × TH)) = some (v, H') from h) (by simp)
    | true =>
      rw [hc1] at h
      dsimp only at h
      rw [Nat.ble_eq] at hc1 hc2
      obtain ⟨p, hp, h⟩ := orec_some h
      obtain ⟨x1, t1, H1⟩ := p
      obtain ⟨e1, L1, h1, h2, h3⟩ := codeR_sim hX fuel f.body _ t1 _ H H1 L x1 (EIs.start hc1 hc2) hH hp
      dsimp only at h
      rw [rd_fun h2, h3.got, ← resultsG_eq] at h
      unfold evalFunc
      rw [if_pos hc1, h1]
      cases x1 with
      | exit id => exact absurd (show (none : Option (V × TH)) = some (v, H') from h) (by simp)
      | normal =>
        obtain ⟨v1, hv, h⟩ := orec_some h
        simp only [Option.some.injEq, Prod.mk.injEq] at h
        obtain ⟨rfl, rfl⟩ := h
        exact ⟨L1, by simp only [hv]; rfl, h3⟩
      | ret =>
        obtain ⟨v1, hv, h⟩ := orec_some h
        simp only [Option.some.injEq, Prod.mk.injEq] at h
        obtain ⟨rfl, rfl⟩ := h
        exact ⟨L1, by simp only [hv]; rfl, h3⟩

end

/-- THE STAGED EVALUATOR ANSWERS WHAT THE EVALUATOR ANSWERS. -/
theorem ctxR_sim {fs : FuncId → Option EFunc} {T : FuncId → List V → Option V} {rounds : Nat} : ∀ (d : Nat), Sim (ctxR fs T rounds d) (ctxE fs (fun f args H => (T f args).map fun v => (v, H)) rounds d)
  | 0 => by
    intro f args H H' L v _ h
    have h : (none : Option (V × TH)) = some (v, H') := h
    simp at h
  | d + 1 => by
    intro f args H H' L v hH h
    have h : (Option.rec (motive := fun _ => Option (V × TH)) (Option.rec (motive := fun _ => Option (V × TH)) none (fun r => Option.rec (motive := fun _ => Option (V × TH)) none (fun r => r.run (ctxR fs T rounds d) rounds args H) r) ((stages fs 10 1 0).get f)) (fun v => some (v, H)) (T f args)) = some (v, H') := h
    simp only [ctxE]
    cases hT : T f args with
    | some v1 =>
      rw [hT] at h
      have h : some (v1, H) = some (v, H') := h
      simp only [Option.some.injEq, Prod.mk.injEq] at h
      obtain ⟨rfl, rfl⟩ := h
      exact ⟨L, rfl, hH⟩
    | none =>
      rw [hT] at h
      obtain ⟨r0, hr0, h⟩ := orec_some h
      obtain ⟨r, hr, h⟩ := orec_some h
      have hr1 := stages_ok 10 1 0 f hr0
      rw [Nat.one_mul, Nat.add_zero] at hr1
      rw [hr1] at hr
      simp only [Option.map_none]
      cases hf : fs f with
      | none =>
        have hr : (Option.rec (motive := fun _ => Option RunF) none (fun ef => some (funcR ef)) (fs f)) = some r := hr
        rw [hf] at hr
        exact absurd (show (none : Option RunF) = some r from hr) (by simp)
      | some ef =>
        have hr : (Option.rec (motive := fun _ => Option RunF) none (fun ef => some (funcR ef)) (fs f)) = some r := hr
        rw [hf] at hr
        have hr : some (funcR ef) = some r := hr
        simp only [Option.some.injEq] at hr
        subst hr
        exact funcR_sim (ctxR_sim d) hH h

end Go.PE
