/- GroupLoses, its body in pieces; a run as a walk through states; from what the kernel has reckoned to the call's end. -/
import Derived.Test.YtcgjkbnijnefjaaGreatDoorLsK3
import Derived.Test.YtcgjkbnijnefjaaGreatDoorLsH
import Derived.KernelRfl
namespace Go.PE
open Go.Proofs Go.RowKit
set_option maxRecDepth 100000

/-- The n-th of codes that lie one behind the other. -/
def spineAt : Nat → ECode → ECode
  | 0, .seq a _ => a
  | n + 1, .seq _ b => spineAt n b
  | _, c => c
/-- .. and what lies behind the first n. -/
def restAt : Nat → ECode → ECode
  | 0, c => c
  | n + 1, .seq _ b => restAt n b
  | _ + 1, c => c

def lsP : List ECode := [spineAt 0 lit4.body, spineAt 1 lit4.body]
def lsL : ECode := .seq (.ops cL) (.cond (.t 25) (.seq (.ops [⟨(some 6), .move (.c (.bool true)), none⟩]) .ret) .skip)
def lsQ : List ECode := [spineAt 3 lit4.body, spineAt 4 lit4.body, spineAt 5 lit4.body, spineAt 6 lit4.body]
def lose : List EOper := [⟨(some 75), .move (.t 7), none⟩, ⟨(some 76), .move (.t 7), none⟩, ⟨(some 77), .nilc (.t 76), none⟩, ⟨(some 78), .fieldAddr 7 (.t 77), none⟩, ⟨(some 79), .load false 1 (.t 78), none⟩, ⟨(some 80), .slice 131 (.t 79) (some (.c (.int .i64 1))) none, none⟩, ⟨(some 81), .nilc (.t 75), none⟩, ⟨(some 82), .fieldAddr 7 (.t 81), none⟩, ⟨none, .store 1 (.t 82) (.t 80), none⟩]
def take : List EOper := [⟨(some 83), .move (.t 7), none⟩, ⟨(some 84), .call 18 [(.t 83), (.c (.int .i64 0))], none⟩]
def lsK : ECode := match spineAt 7 lit4.body with | .seq _ (.block _ (.loop (.seq _ (.seq (.block _ (.seq _ c)) _)))) => c | _ => .fail
def lsI : ECode := .seq (.seq (.ops c2) (.cond (.t 62) .skip (.exit 2))) (.seq (.block 3 (.seq (.seq (.ops c3) (.cond (.t 74) (.ops lose) (.ops take))) (.ops inc9))) (.ops inc11))
def lsO : ECode := .seq (.seq (.ops c0) (.cond (.t 50) .skip (.exit 0))) (.seq (.block 1 (.seq (.seq (.ops [⟨some 11, .move (.c (.int .i64 0)), none⟩]) (.block 2 (.loop lsI))) lsK)) (.ops inc10))
def lsE : ECode := restAt 8 lit4.body
theorem ls_body : lit4.body = app lsP (.seq lsL (app lsQ (.seq (.seq (.ops [⟨some 10, .move (.c (.int .i64 0)), none⟩]) (.block 0 (.loop lsO))) lsE))) := by kernel_rfl

def LitM : Nat := 2 ^ 2 ||| (2 ^ 7 ||| 2 ^ 8)
def DM : Nat := (2 ^ 164 - 1) ^^^ LitM
def KeepM : Nat := 2 ^ 1 ||| (2 ^ 9 ||| (2 ^ 10 ||| 2 ^ 11))
def u164 : Env := List.replicate 164 V.undef
def eS : Env := ((u164.set 2 (.syms 0 0 16)).set 7 (.ptr 0 0 0 9)).set 8 (.ptr 30 0 0 6)

theorem chk_and {c : ECode} {D L : Nat} {ex : Ex} (h : (chk c D).map (fun outs => exD outs ex &&& L) = some 0) : ∃ outs, chk c D = some outs ∧ exD outs ex &&& L = 0 := by
  rw [Option.map_eq_some_iff] at h
  exact h

theorem lose_s : strip (.ops lose) = .ops lose := by kernel_rfl
theorem lose_c : (chk (.ops lose) DM).map (fun outs => exD outs .normal &&& LitM) = some 0 := by kernel_rfl
theorem lose_w : wrt (.ops lose) &&& KeepM = 0 := by kernel_rfl
theorem take_s : strip (.ops take) = .ops take := by kernel_rfl
theorem take_c : (chk (.ops take) DM).map (fun outs => exD outs .normal &&& LitM) = some 0 := by kernel_rfl
theorem take_w : wrt (.ops take) &&& KeepM = 0 := by kernel_rfl
theorem lsK_s : strip lsK = lsK := by kernel_rfl
theorem lsK_c : (chk lsK DM).map (fun outs => exD outs .normal &&& LitM) = some 0 := by kernel_rfl
theorem lsK_w : wrt lsK &&& KeepM = 0 := by kernel_rfl
theorem lsE_s : strip lsE = lsE := by kernel_rfl
theorem lsE_c : (chk lsE DM).map (fun outs => (exD outs .ret).testBit 6) = some false := by kernel_rfl
theorem lsP_s : strip (app lsP .skip) = app lsP .skip := by kernel_rfl
theorem lsP_c : (chk (app lsP .skip) 2).map (fun outs => exD outs .normal &&& 5) = some 0 := by kernel_rfl
theorem lsP_w : wrt (app lsP .skip) &&& 2 = 0 := by kernel_rfl
def DQ : Nat := (2 ^ 164 - 1) ^^^ 5
theorem lsQ_s : strip (app lsQ .skip) = app lsQ .skip := by kernel_rfl
theorem lsQ_c : (chk (app lsQ .skip) DQ).map (fun outs => exD outs .normal &&& (LitM ||| 2 ^ 9)) = some 0 := by kernel_rfl
theorem lsQ_w : wrt (app lsQ .skip) &&& 2 = 0 := by kernel_rfl

abbrev iN (i : Nat) : V := .int .i64 (i : Int)
/-- A row of slots ahead of a message: the world, the operation, its text; what was handed in to be lost; numbers. -/
structure Ready (pv : V) (e : Env) (a r : Nat) (w : V) : Prop where
  len : e.length = 164
  h1 : e.getD 1 V.undef = pv
  h2 : e.getD 2 V.undef = .syms 0 0 16
  h7 : e.getD 7 V.undef = .ptr 0 0 0 9
  h8 : e.getD 8 V.undef = .ptr 30 0 0 6
  h9 : e.getD 9 V.undef = .int .i64 (a : Int)
  h10 : e.getD 10 V.undef = .int .i64 (r : Int)
  h11 : e.getD 11 V.undef = w
  fw : ∀ μ : Mv, V.mv μ w = some w

/-- The slots' own values behind a piece that doesn't touch them. -/
theorem Ready.same {a r : Nat} {w pv : V} {e e1 : Env} (h : Ready pv e a r w) (hs : Same41 e1 e) : Ready pv e1 a r w :=
  ⟨hs.1, by rw [hs.2 1 (by decide)]; exact h.h1, by rw [hs.2 2 (by decide)]; exact h.h2, by rw [hs.2 7 (by decide)]; exact h.h7, by rw [hs.2 8 (by decide)]; exact h.h8, by rw [hs.2 9 (by decide)]; exact h.h9, by rw [hs.2 10 (by decide)]; exact h.h10, by rw [hs.2 11 (by decide)]; exact h.h11, h.fw⟩

theorem keep_bit {t : Nat} : KeepM.testBit t = true → t = 1 ∨ t = 9 ∨ t = 10 ∨ t = 11 := by
  have key : ∀ t, t < 164 → KeepM.testBit t = true → t = 1 ∨ t = 9 ∨ t = 10 ∨ t = 11 := by decide +kernel
  intro h
  by_cases ht : t < 164
  · exact key t ht h
  · have : KeepM < 2 ^ t := Nat.lt_of_lt_of_le (show KeepM < 2 ^ 164 by decide +kernel) (Nat.pow_le_pow_right (by decide) (by omega))
    rw [Nat.testBit_lt_two_pow this] at h
    simp at h

theorem lit_bit {t : Nat} (ht : t < 164) : DM.testBit t = false → t = 2 ∨ t = 7 ∨ t = 8 := by
  have key : ∀ t, t < 164 → DM.testBit t = false → t = 2 ∨ t = 7 ∨ t = 8 := by decide +kernel
  exact key t ht

theorem Ready.agr {a r : Nat} {w pv : V} {e : Env} (h : Ready pv e a r w) : Agr DM e eS := by
  refine ⟨by rw [h.len]; rfl, fun t ht => ?_⟩
  by_cases hlt : t < 164
  · rcases lit_bit hlt ht with rfl | rfl | rfl
    · rw [h.h2]; rfl
    · rw [h.h7]; rfl
    · rw [h.h8]; rfl
  · rw [List.getD_eq_getElem?_getD, List.getD_eq_getElem?_getD, List.getElem?_eq_none (by rw [h.len]; omega), List.getElem?_eq_none (by show eS.length ≤ t; rw [show eS.length = 164 from rfl]; omega)]

/-- What is handed in to be lost: truths. -/
structure Truths (n : Nat) (pv : V) : Prop where
  len : lenK false pv = some n
  firm : ∀ μ : Mv, V.mv μ pv = some pv
  el : ∀ a : Nat, a < n → ∃ b, indexAddrSlE 1 pv (.int .i64 (a : Int)) = some (.pptr [V.bool b])

theorem Ready.firm {n a r : Nat} {w pv : V} {e : Env} (hl : Truths n pv) (h : Ready pv e a r w) : Firm KeepM e := by
  intro t ht μ
  rcases keep_bit ht with rfl | rfl | rfl | rfl
  · rw [h.h1]; exact hl.firm μ
  · rw [h.h9]; rfl
  · rw [h.h10]; rfl
  · rw [h.h11]; exact h.fw μ

/-- The names of a state's boxes behind a piece of a round: 'a': the primary. -/
def cellAt (g : Nat → Option Box) (b j : Nat) : V := match g b with | some (.cells l _ _) => l.getD j V.undef | _ => V.undef
def slN : V → Option (Nat × Nat × Nat)
  | .slice b _ _ _ _ _ => some (b, 0, 0)
  | _ => none
def slM : V → Option (Nat × Nat × Nat)
  | .slice b v o _ _ _ => some (b, o, v)
  | _ => none
def lsNm (a : Nat) (g : Nat → Option Box) : MvT :=
  (List.range 22).map (fun b => some (b, 0, 0)) ++ ((List.range 5).map (fun i => slN (cellAt g (12 + i) 51)) ++ [slN (cellAt g (12 + a) 309), slM (cellAt g 0 7), slN (cellAt g 0 8), some (30, 0, 0)])

/-- What the kernel reckons of a piece, from one state to another. -/
noncomputable def goX (a : Nat) (c : ECode) (H H2 : Heap) : Bool := phaseM ctx3 3000 164 c eS H (lsNm a) LitM eS H2

theorem bit_keep : KeepM.testBit 1 = true ∧ KeepM.testBit 9 = true ∧ KeepM.testBit 10 = true ∧ KeepM.testBit 11 = true := by decide +kernel
theorem bit_lit : LitM.testBit 2 = true ∧ LitM.testBit 7 = true ∧ LitM.testBit 8 = true := by decide +kernel

/-- A piece leads from one state to another. -/
def Step (c : ECode) (H H2 : Heap) : Prop := ∀ (n : Nat) (pv : V) (e : Env) (a r : Nat) (w : V), Truths n pv → Ready pv e a r w → ∃ e01 L', evalCode law3 3000 c e H = some (.normal, e01, L') ∧ ∃ μ e2, RenMv μ e2 H2 e01 L' ∧ Ready pv e2 a r w

theorem step_of {p : Nat} {c : ECode} {H H2 : Heap} (hs : strip c = c) (hc : (chk c DM).map (fun outs => exD outs .normal &&& LitM) = some 0) (hw : wrt c &&& KeepM = 0) (h : goX p c H H2 = true) : Step c H H2 := by
  intro n pv e a r w hl hr
  obtain ⟨outs, c1, c2⟩ := chk_and hc
  obtain ⟨e01, L', q1, μ, e2, q2, _, q4, q5, q6⟩ := phaseM_ok law3_sim hs c1 c2 hw (by decide +kernel) h hr.agr (hr.firm hl)
  have lt : ∀ {t : Nat}, t < 164 → t < e.length := fun h => by rw [hr.len]; exact h
  exact ⟨e01, L', q1, μ, e2, q6, ⟨by rw [q2, hr.len], by rw [q5 1 (lt (by decide)) bit_keep.1]; exact hr.h1, by rw [q4 2 (lt (by decide)) bit_lit.1]; rfl, by rw [q4 7 (lt (by decide)) bit_lit.2.1]; rfl, by rw [q4 8 (lt (by decide)) bit_lit.2.2]; rfl,
    by rw [q5 9 (lt (by decide)) bit_keep.2.1]; exact hr.h9, by rw [q5 10 (lt (by decide)) bit_keep.2.2.1]; exact hr.h10, by rw [q5 11 (lt (by decide)) bit_keep.2.2.2]; exact hr.h11, hr.fw⟩⟩

/-- A world of states: kind 0: messages lie there; 1: none do, and no client was told; 2: none do, and one was; 3: what a tick comes to behind that. -/
structure Sys (M : Nat) (hS : Nat → Heap) (kind nA nB mu de : Nat → Nat) : Prop where
  bag : ∀ s, s < M → ∃ bv m, loadE false 1 (.ptr 0 0 7 2) (hS s) = some bv ∧ lenK false bv = some m ∧ (kind s = 0 → 0 < m) ∧ (kind s = 1 ∨ kind s = 2 → m = 0)
  told : ∀ s, s < M → ∃ bv m, loadE false 1 (.ptr 0 0 8 1) (hS s) = some bv ∧ lenK false bv = some m ∧ (kind s = 3 → m ≠ 0)
  lost : ∀ s, s < M → kind s = 0 → nA s < M ∧ kind (nA s) ≤ 2 ∧ mu (nA s) < mu s ∧ Step (.ops lose) (hS s) (hS (nA s))
  took : ∀ s, s < M → kind s = 0 → nB s < M ∧ kind (nB s) ≤ 2 ∧ mu (nB s) < mu s ∧ de (nB s) ≤ de s ∧ Step (.ops take) (hS s) (hS (nB s))
  tick : ∀ s, s < M → kind s = 1 → nA s < M ∧ kind (nA s) = 0 ∧ de (nA s) + 1 ≤ de s ∧ (∃ bv, loadE false 1 (.ptr 0 0 8 1) (hS (nA s)) = some bv ∧ lenK false bv = some 0) ∧ Step lsK (hS s) (hS (nA s))
  last : ∀ s, s < M → kind s = 2 → nA s < M ∧ kind (nA s) = 3 ∧ Step lsK (hS s) (hS (nA s))
  small : ∀ s, s < M → mu s ≤ 150 ∧ 1 ≤ de s ∧ de s ≤ 15

section
variable {S : Nat → Option ByteArray} {M : Nat} {hS : Nat → Heap} {kind nA nB mu de : Nat → Nat} {n : Nat} {pv : V}

theorem does_eval {X : Ctx} {os : List EOper} {e : Env} {H : Heap} {Q : Env → Prop} (h : Does X os e H Q) (fuel : Nat) : ∃ e1, evalCode X fuel (.ops os) e H = some (.normal, e1, H) ∧ Q e1 := by
  obtain ⟨e1, h1, h2⟩ := h
  exact ⟨e1, by simp only [evalCode, h1, Option.map_some], h2⟩

theorem inner (sys : Sys M hS kind nA nB mu de) (hl : Truths n pv) : ∀ (k s : Nat), mu s ≤ k → s < M → kind s ≤ 2 → ∀ (e : Env) (a r i : Nat), Ready pv e a r (iN i) → i + mu s ≤ 199 → a + mu s ≤ 90000 →
    ∃ m e' a' i' s', GoodN Tryz.prog S lsI m e (hS s) (.exit 2) e' (hS s') ∧ Ready pv e' a' r (iN i') ∧ s' < M ∧ (kind s' = 1 ∨ kind s' = 2) ∧ a ≤ a' ∧ a' ≤ a + mu s ∧ (kind s = 0 → a < a') ∧ (n ≤ a → de s' ≤ de s) := by
  intro k
  induction k with
  | zero =>
    intro s hk hM hkind e a r i hr hi ha
    have h0 : kind s ≠ 0 := fun h => by
      have := (sys.lost s hM h).2.2.1
      omega
    obtain ⟨bv, m, b1, b2, _, b4⟩ := sys.bag s hM
    have hm := b4 (by omega)
    obtain ⟨e1, q1, q2, q3⟩ := does_eval (c2_run (X := law3) (H := hS s) hr.len (by omega) hr.h11 hr.h7 b1 b2) 3000
    have hx : evalCode law3 3000 (.seq (.ops c2) (.cond (.t 62) .skip (.exit 2))) e (hS s) = some (.exit 2, e1, hS s) := by
      subst hm
      simp only [evalCode] at q1 ⊢
      rw [q1]
      simp only [Opd.ev, q3]
      rfl
    exact ⟨1, e1, a, i, s, goodN_last (by simp) (good_seq_out (by simp) (good_eval tryzMixed law3_ok 3000 hx)), hr.same q2, hM, by omega, Nat.le_refl _, by omega, fun h => (h0 h).elim, fun _ => Nat.le_refl _⟩
  | succ k ih =>
    intro s hk hM hkind e a r i hr hi ha
    obtain ⟨bv, m, b1, b2, b3, b4⟩ := sys.bag s hM
    obtain ⟨e1, q1, q2, q3⟩ := does_eval (c2_run (X := law3) (H := hS s) hr.len (by omega) hr.h11 hr.h7 b1 b2) 3000
    have hr1 := hr.same q2
    by_cases h0 : kind s = 0
    · have hm := b3 h0
      have hx : evalCode law3 3000 (.seq (.ops c2) (.cond (.t 62) .skip (.exit 2))) e (hS s) = some (.normal, e1, hS s) := by
        simp only [evalCode] at q1 ⊢
        rw [q1]
        simp only [Opd.ev, q3, decide_eq_true hm]
      obtain ⟨b, hb, d3⟩ := c3_run (X := law3) (H := hS s) hr1.len hr1.h1 hr1.h9 hl.len (hl.el a)
      obtain ⟨e2, p1, p2, p3⟩ := does_eval d3 3000
      have hr2 := hr1.same p2
      -- what was lost or taken
      obtain ⟨s1, hs1, e01, L', μ, e3, st, ren, hr3⟩ : ∃ s1, (s1 < M ∧ kind s1 ≤ 2 ∧ mu s1 < mu s ∧ (b = false → de s1 ≤ de s)) ∧ ∃ e01 L' μ e3, evalCode law3 3000 (.cond (.t 74) (.ops lose) (.ops take)) e2 (hS s) = some (.normal, e01, L') ∧ RenMv μ e3 (hS s1) e01 L' ∧ Ready pv e3 a r (iN i) := by
        cases b with
        | true =>
          obtain ⟨u1, u2, u3, u4⟩ := sys.lost s hM h0
          obtain ⟨e01, L', w1, μ, e3, w2, w3⟩ := u4 n pv e2 a r (iN i) hl hr2
          exact ⟨nA s, ⟨u1, u2, u3, fun h => by simp at h⟩, e01, L', μ, e3, by rw [← w1]; simp only [evalCode, Opd.ev, p3], w2, w3⟩
        | false =>
          obtain ⟨u1, u2, u3, u5, u4⟩ := sys.took s hM h0
          obtain ⟨e01, L', w1, μ, e3, w2, w3⟩ := u4 n pv e2 a r (iN i) hl hr2
          exact ⟨nB s, ⟨u1, u2, u3, fun _ => u5⟩, e01, L', μ, e3, by rw [← w1]; simp only [evalCode, Opd.ev, p3], w2, w3⟩
      obtain ⟨v1, v2, v3, v4⟩ := hs1
      have g3 : GoodE Tryz.prog S (.cond (.t 74) (.ops lose) (.ops take)) e2 (hS s) .normal e3 (hS s1) := good_outM (good_eval tryzMixed law3_ok 3000 st) ren
      obtain ⟨e4, x1, x2, x3, x4⟩ := does_eval (inc_run (X := law3) (H := hS s1) (s := 9) (p := 85) (q := 86) hr3.len (by decide) (by decide) (by decide) (by decide) (by decide) (show a < 99999 by omega) hr3.h9) 3000
      have hr4 : Ready pv e4 (a + 1) r (iN i) := ⟨x2, by rw [x3 1 (by decide) (by decide)]; exact hr3.h1, by rw [x3 2 (by decide) (by decide)]; exact hr3.h2, by rw [x3 7 (by decide) (by decide)]; exact hr3.h7, by rw [x3 8 (by decide) (by decide)]; exact hr3.h8, x4, by rw [x3 10 (by decide) (by decide)]; exact hr3.h10, by rw [x3 11 (by decide) (by decide)]; exact hr3.h11, fun _ => rfl⟩
      obtain ⟨e5, y1, y2, y3, y4⟩ := does_eval (inc_run (X := law3) (H := hS s1) (s := 11) (p := 63) (q := 64) hr4.len (by decide) (by decide) (by decide) (by decide) (by decide) (show i < 99999 by omega) hr4.h11) 3000
      have hr5 : Ready pv e5 (a + 1) r (iN (i + 1)) := ⟨y2, by rw [y3 1 (by decide) (by decide)]; exact hr4.h1, by rw [y3 2 (by decide) (by decide)]; exact hr4.h2, by rw [y3 7 (by decide) (by decide)]; exact hr4.h7, by rw [y3 8 (by decide) (by decide)]; exact hr4.h8, by rw [y3 9 (by decide) (by decide)]; exact hr4.h9, by rw [y3 10 (by decide) (by decide)]; exact hr4.h10, y4, fun _ => rfl⟩
      have body : GoodE Tryz.prog S lsI e (hS s) .normal e5 (hS s1) :=
        good_seq (good_eval tryzMixed law3_ok 3000 hx) (good_seq (good_block (id := 3) (good_seq (good_seq (good_eval tryzMixed law3_ok 3000 p1) g3) (good_eval tryzMixed law3_ok 3000 x1))) (good_eval tryzMixed law3_ok 3000 y1))
      obtain ⟨m', e', a', i', s', r1, r2, r3, r4, r5, r6, r7, r8⟩ := ih s1 (by omega) v1 v2 e5 (a + 1) r (i + 1) hr5 (by omega) (by omega)
      exact ⟨m' + 1, e', a', i', s', goodN_more body r1, r2, r3, r4, by omega, by omega, fun _ => by omega, fun hn => Nat.le_trans (r8 (by omega)) (v4 (hb hn))⟩
    · have hm := b4 (by omega)
      have hx : evalCode law3 3000 (.seq (.ops c2) (.cond (.t 62) .skip (.exit 2))) e (hS s) = some (.exit 2, e1, hS s) := by
        subst hm
        simp only [evalCode] at q1 ⊢
        rw [q1]
        simp only [Opd.ev, q3]
        rfl
      exact ⟨1, e1, a, i, s, goodN_last (by simp) (good_seq_out (by simp) (good_eval tryzMixed law3_ok 3000 hx)), hr1, hM, by omega, Nat.le_refl _, by omega, fun h => (h0 h).elim, fun _ => Nat.le_refl _⟩

/-- Round after round, until a client was told. -/
theorem outer (sys : Sys M hS kind nA nB mu de) (hl : Truths n pv) (hn : n ≤ 100) : ∀ (k s : Nat) (e : Env) (a r : Nat) (w : V), 120 ≤ r + k → s < M → kind s = 0 → (∃ bv, loadE false 1 (.ptr 0 0 8 1) (hS s) = some bv ∧ lenK false bv = some 0) → Ready pv e a r w →
    a ≤ 150 * r → (a < n → r ≤ a) → (n ≤ a → r + de s ≤ 119) →
    ∃ m e' a' r' w' s', GoodN Tryz.prog S lsO m e (hS s) (.exit 0) e' (hS s') ∧ Ready pv e' a' r' w' ∧ s' < M ∧ kind s' = 3 := by
  intro k
  induction k with
  | zero =>
    intro s e a r w hk hM h0 _ hr ha h1 h2
    have := sys.small s hM
    by_cases h : a < n
    · have := h1 h; omega
    · have := h2 (by omega); omega
  | succ k ih =>
    intro s e a r w hk hM h0 hts hr ha h1 h2
    have hsm := sys.small s hM
    have hr118 : r ≤ 118 := by
      by_cases h : a < n
      · have := h1 h; omega
      · have := h2 (by omega); omega
    obtain ⟨tv, t1, t2⟩ := hts
    obtain ⟨e1, q1, q2, q3⟩ := does_eval (c0_run (X := law3) (H := hS s) hr.len (by omega) hr.h10 hr.h7 t1 t2) 3000
    have hr1 := hr.same q2
    have hx : evalCode law3 3000 (.seq (.ops c0) (.cond (.t 50) .skip (.exit 0))) e (hS s) = some (.normal, e1, hS s) := by
      simp only [evalCode] at q1 ⊢
      rw [q1]
      simp only [Opd.ev, q3]
      rfl
    -- the messages
    have z1 : evalCode law3 3000 (.ops [⟨some 11, .move (.c (.int .i64 0)), none⟩]) e1 (hS s) = some (.normal, e1.set 11 (.int .i64 0), hS s) := rfl
    have hr2 : Ready pv (e1.set 11 (.int .i64 0)) a r (iN 0) := by
      have g : ∀ t, t ≠ 11 → (e1.set 11 (.int .i64 0)).getD t V.undef = e1.getD t V.undef := fun t ht => by rw [set_getD, if_neg (fun c => ht c.1)]
      exact ⟨by rw [List.length_set]; exact hr1.len, by rw [g 1 (by decide)]; exact hr1.h1, by rw [g 2 (by decide)]; exact hr1.h2, by rw [g 7 (by decide)]; exact hr1.h7, by rw [g 8 (by decide)]; exact hr1.h8, by rw [g 9 (by decide)]; exact hr1.h9, by rw [g 10 (by decide)]; exact hr1.h10, by rw [set_getD, if_pos ⟨rfl, by rw [hr1.len]; decide⟩]; rfl, fun _ => rfl⟩
    obtain ⟨m, e', a', i', s', p1, p2, p3, p4, p5, p6, p7, p8⟩ := inner (S := S) sys hl (mu s) s (Nat.le_refl _) hM (by omega) _ a r 0 hr2 (by omega) (by omega)
    have ga := p7 h0
    have gl : GoodE Tryz.prog S (.block 2 (.loop lsI)) (e1.set 11 (.int .i64 0)) (hS s) .normal e' (hS s') := good_block (id := 2) (good_loop p1)
    -- the ticks
    obtain ⟨s2, e3, c1, c2', e2', c3'⟩ : ∃ s2 e3, GoodE Tryz.prog S lsK e' (hS s') .normal e3 (hS s2) ∧ Ready pv e3 a' r (iN i') ∧ s2 < M ∧ ((kind s2 = 0 ∧ de s2 + 1 ≤ de s' ∧ ∃ bv, loadE false 1 (.ptr 0 0 8 1) (hS s2) = some bv ∧ lenK false bv = some 0) ∨ kind s2 = 3) := by
      rcases p4 with h | h
      · obtain ⟨u1, u2, u3, u4, u5⟩ := sys.tick s' p3 h
        obtain ⟨e01, L', w1, μ, e3, w2, w3⟩ := u5 n pv e' a' r (iN i') hl p2
        exact ⟨nA s', e3, good_outM (good_eval tryzMixed law3_ok 3000 w1) w2, w3, u1, .inl ⟨u2, u3, u4⟩⟩
      · obtain ⟨u1, u2, u5⟩ := sys.last s' p3 h
        obtain ⟨e01, L', w1, μ, e3, w2, w3⟩ := u5 n pv e' a' r (iN i') hl p2
        exact ⟨nA s', e3, good_outM (good_eval tryzMixed law3_ok 3000 w1) w2, w3, u1, .inr u2⟩
    obtain ⟨e4, y1, y2, y3, y4⟩ := does_eval (inc_run (X := law3) (H := hS s2) (s := 10) (p := 51) (q := 52) c2'.len (by decide) (by decide) (by decide) (by decide) (by decide) (show r < 99999 by omega) c2'.h10) 3000
    have hr4 : Ready pv e4 a' (r + 1) (iN i') := ⟨y2, by rw [y3 1 (by decide) (by decide)]; exact c2'.h1, by rw [y3 2 (by decide) (by decide)]; exact c2'.h2, by rw [y3 7 (by decide) (by decide)]; exact c2'.h7, by rw [y3 8 (by decide) (by decide)]; exact c2'.h8, by rw [y3 9 (by decide) (by decide)]; exact c2'.h9, y4, by rw [y3 11 (by decide) (by decide)]; exact c2'.h11, fun _ => rfl⟩
    have body : GoodE Tryz.prog S lsO e (hS s) .normal e4 (hS s2) :=
      good_seq (good_eval tryzMixed law3_ok 3000 hx) (good_seq (good_block (id := 1) (good_seq (good_seq (good_eval tryzMixed law3_ok 3000 z1) gl) c1)) (good_eval tryzMixed law3_ok 3000 y1))
    rcases c3' with ⟨k0, kd, kt⟩ | k3
    · have hde := sys.small s2 e2'
      have hde' := sys.small s' p3
      obtain ⟨m', e5, a5, r5, i5, s5, g1, g2⟩ := ih s2 e4 a' (r + 1) (iN i') (by omega) e2' k0 kt hr4 (by omega) (fun h => by
        have := h1 (by omega); omega) (fun h => by
          by_cases han : a < n
          · have := h1 han; omega
          · have := h2 (by omega)
            have := p8 (by omega)
            omega)
      exact ⟨m' + 1, e5, a5, r5, i5, s5, goodN_more body g1, g2⟩
    · obtain ⟨tv', m3, w1, w2, w3⟩ := sys.told s2 e2'
      have hm := w3 k3
      obtain ⟨e5, v1, v2, v3⟩ := does_eval (c0_run (X := law3) (H := hS s2) hr4.len (by omega) hr4.h10 hr4.h7 w1 w2) 3000
      have hx5 : evalCode law3 3000 (.seq (.ops c0) (.cond (.t 50) .skip (.exit 0))) e4 (hS s2) = some (.exit 0, e5, hS s2) := by
        simp only [evalCode] at v1 ⊢
        rw [v1]
        simp only [Opd.ev, v3, decide_eq_false hm]
      exact ⟨2, e5, a', r + 1, iN i', s2, goodN_more body (goodN_last (by simp) (good_seq_out (by simp) (good_eval tryzMixed law3_ok 3000 hx5))), hr4.same v2, e2', k3⟩
end

end Go.PE
