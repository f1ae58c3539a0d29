/- GroupLoses: from its arguments to the states, and from the last one to the end. -/
import Derived.Test.YtcgjkbnijnefjaaGreatDoorLsM
import Derived.KernelRfl
namespace Go.PE
open Go.Proofs Go.RowKit
set_option maxRecDepth 100000

def u161 : Env := List.replicate 161 V.undef
noncomputable def eG (g : Nat) : Env := [modV .u8 4 g, V.undef, .syms 0 0 16] ++ u161

/-- What the kernel reckons: the beginning; the way to the first state; the end. -/
noncomputable def goP (g : Nat) : Bool := phaseM ctx3 3000 164 (app lsP .skip) (eG g) [] (fun _ => []) 5 (eG g) []
noncomputable def goQ (g : Nat) (m : MvT) (H : Heap) : Bool := phaseM ctx3 3000 164 (app lsQ .skip) (eG g) [] (fun _ => m) (LitM ||| 2 ^ 9) (eS.set 9 (.int .i64 0)) H
noncomputable def goZ (H : Heap) : Bool := (List.range 17).all fun L => lastS ctx3 3000 164 lsE (V.szL 0 L eS) (H.map (Box.sz 0 L)) 6

def KP : Nat := 2 ^ 1 ||| 2 ^ 11
theorem lsP_w2 : wrt (app lsP .skip) &&& KP = 0 := by kernel_rfl
theorem lsQ_w2 : wrt (app lsQ .skip) &&& KP = 0 := by kernel_rfl
theorem kp_bit {t : Nat} : KP.testBit t = true → t = 1 ∨ t = 11 := by
  intro h
  have : KP = 2 ^ 1 ||| 2 ^ 11 := rfl
  rw [this, Nat.testBit_or, Nat.testBit_two_pow, Nat.testBit_two_pow, Bool.or_eq_true, decide_eq_true_eq, decide_eq_true_eq] at h
  omega
theorem kp_bits : KP.testBit 1 = true ∧ KP.testBit 11 = true := by decide +kernel
theorem dq_bit {t : Nat} (ht : t < 164) : DQ.testBit t = false → t = 0 ∨ t = 2 := by
  have key : ∀ t, t < 164 → DQ.testBit t = false → t = 0 ∨ t = 2 := by decide +kernel
  exact key t ht
theorem litq_bits : (LitM ||| 2 ^ 9).testBit 2 = true ∧ (LitM ||| 2 ^ 9).testBit 7 = true ∧ (LitM ||| 2 ^ 9).testBit 8 = true ∧ (LitM ||| 2 ^ 9).testBit 9 = true := by decide +kernel

section
variable {s : ByteArray} {M : Nat} {hS : Nat → Heap} {kind nA nB mu de : Nat → Nat} {n : Nat} {pv : V}

theorem ls_all (hs : s.size ≤ 16) (hn : n ≤ 100) (hl : Truths n pv) {g : Nat} {m : MvT} (hp : goP g = true) (hq : goQ g m (hS 0) = true) (sys : Sys M hS kind nA nB mu de) (h0 : 0 < M) (hk : kind 0 = 0)
    (ht : ∃ bv, loadE false 1 (.ptr 0 0 8 1) (hS 0) = some bv ∧ lenK false bv = some 0) (hz : ∀ q, q < M → kind q = 3 → goZ (hS q) = true) :
    ∃ e' H', GoodE Tryz.prog (fun _ => some s) lit4.body ([modV .u8 4 g, pv, .syms 0 0 16] ++ u161) [] .ret e' H' ∧ e'.getD 6 V.undef = .bool true := by
  rw [ls_body]
  generalize he0 : ([modV .u8 4 g, pv, .syms 0 0 16] ++ u161 : Env) = e0
  have l0 : e0.length = 164 := by rw [← he0]; rfl
  have a0 : Agr 2 e0 (eG g) := by
    rw [← he0]
    refine ⟨rfl, fun t h => ?_⟩
    match t, h with
    | 0, _ => rfl
    | 1, h => exact absurd h (by decide)
    | 2, _ => rfl
    | t + 3, _ => rfl
  have f0 : Firm KP e0 := by
    intro t h μ
    rcases kp_bit h with rfl | rfl
    · rw [← he0]; exact hl.firm μ
    · rw [← he0]; rfl
  obtain ⟨outs, c1, c2⟩ := chk_and lsP_c
  obtain ⟨e01, L1, q1, μ1, e1, q2, _, q4, q5, q6⟩ := phaseM_ok law3_sim lsP_s c1 c2 lsP_w2 (by decide +kernel) hp a0 f0
  have lt0 : ∀ {t : Nat}, t < 164 → t < e0.length := fun h => by rw [l0]; exact h
  have l1 : e1.length = 164 := by rw [q2, l0]
  have k1 : e1.getD 1 V.undef = pv := by rw [q5 1 (lt0 (by decide)) kp_bits.1, ← he0]; rfl
  have k11 : e1.getD 11 V.undef = V.undef := by rw [q5 11 (lt0 (by decide)) kp_bits.2, ← he0]; rfl
  have k0 : e1.getD 0 V.undef = modV .u8 4 g := by rw [q4 0 (lt0 (by decide)) (by decide)]; rfl
  have k2 : e1.getD 2 V.undef = .syms 0 0 16 := by rw [q4 2 (lt0 (by decide)) (by decide)]; rfl
  -- the rows are not too long
  obtain ⟨e2, r1, r2, r3⟩ := does_eval (cL_text (X := law3) (H := []) (x := ⟨none, 0, 0, 16, 1, 0⟩) (b := false) l1 k1 k2 hl.len hn rfl rfl) 3000
  have hL : evalCode law3 3000 lsL e1 [] = some (.normal, e2, []) := by
    unfold lsL
    simp only [evalCode] at r1 ⊢
    rw [r1]
    simp only [Opd.ev, r3]
  have a2 : Agr DQ e2 (eG g) := by
    refine ⟨by rw [r2.1]; rfl, fun t h => ?_⟩
    by_cases hlt : t < 164
    · rcases dq_bit hlt h with rfl | rfl
      · rw [r2.2 0 (by decide), k0]; rfl
      · rw [r2.2 2 (by decide), k2]; rfl
    · rw [List.getD_eq_getElem?_getD, List.getD_eq_getElem?_getD, List.getElem?_eq_none (by rw [r2.1]; omega), List.getElem?_eq_none (by show (eG g).length ≤ t; rw [show (eG g).length = 164 from rfl]; omega)]
  have f2 : Firm KP e2 := by
    intro t h μ
    rcases kp_bit h with rfl | rfl
    · rw [r2.2 1 (by decide), k1]; exact hl.firm μ
    · rw [r2.2 11 (by decide), k11]; rfl
  obtain ⟨outs2, d1, d2⟩ := chk_and lsQ_c
  obtain ⟨e02, L2, p1, μ2, e3, p2, _, p4, p5, p6⟩ := phaseM_ok law3_sim lsQ_s d1 d2 lsQ_w2 (by decide +kernel) hq a2 f2
  have lt2 : ∀ {t : Nat}, t < 164 → t < e2.length := fun h => by rw [r2.1]; exact h
  -- the rounds
  have z1 : evalCode law3 3000 (.ops [⟨some 10, .move (.c (.int .i64 0)), none⟩]) e3 (hS 0) = some (.normal, e3.set 10 (.int .i64 0), hS 0) := rfl
  have hr : Ready pv (e3.set 10 (.int .i64 0)) 0 0 V.undef := by
    have g' : ∀ t, t ≠ 10 → (e3.set 10 (.int .i64 0)).getD t V.undef = e3.getD t V.undef := fun t ht => by rw [set_getD, if_neg (fun c => ht c.1)]
    exact ⟨by rw [List.length_set, p2, r2.1], by rw [g' 1 (by decide), p5 1 (lt2 (by decide)) kp_bits.1, r2.2 1 (by decide)]; exact k1, by rw [g' 2 (by decide), p4 2 (lt2 (by decide)) litq_bits.1]; rfl, by rw [g' 7 (by decide), p4 7 (lt2 (by decide)) litq_bits.2.1]; rfl,
      by rw [g' 8 (by decide), p4 8 (lt2 (by decide)) litq_bits.2.2.1]; rfl, by rw [g' 9 (by decide), p4 9 (lt2 (by decide)) litq_bits.2.2.2]; rfl, by rw [set_getD, if_pos ⟨rfl, by rw [p2, r2.1]; decide⟩]; rfl,
      by rw [g' 11 (by decide), p5 11 (lt2 (by decide)) kp_bits.2, r2.2 11 (by decide)]; exact k11, fun _ => rfl⟩
  have hsm := sys.small 0 h0
  obtain ⟨m', e4, a4, r4, w4, s4, g1, g2, g3, g4⟩ := outer (S := fun _ => some s) sys hl hn 120 0 _ 0 0 _ (by omega) h0 hk ht hr (by omega) (fun _ => by omega) (fun _ => by omega)
  -- the end
  have hzs := List.all_eq_true.1 (hz s4 g3 g4) s.size (List.mem_range.2 (by omega))
  obtain ⟨outs3, v1, v2⟩ := Option.map_eq_some_iff.1 lsE_c
  have hend : EndOK Tryz.prog (fun _ => some s) lsE DM eS (hS s4) 6 := end_sz (i := 0) (L := s.size) rfl rfl (end_last tryzMixed law3_sim law3_ok lsE_s v1 v2 hzs)
  obtain ⟨e', H', w1, w2⟩ := hend e4 g2.agr
  refine ⟨e', H', good_app tryzMixed law3_ok lsP q1 (good_inM q6 (good_seq (good_eval tryzMixed law3_ok 3000 hL) (good_app tryzMixed law3_ok lsQ p1 (good_inM p6 (good_seq (good_seq (good_eval tryzMixed law3_ok 3000 z1) (good_block (id := 0) (good_loop g1))) w1))))), w2⟩

/-- Rows that are too long. -/
theorem ls_long {lo : Nat} (hl : Truths n pv) {g : V} (hp : phaseM ctx3 3000 164 (app lsP .skip) ([V.undef, V.undef, V.undef] ++ u161) [] (fun _ => []) 0 ([V.undef, V.undef, V.undef] ++ u161) [] = true)
    (h : 100 < n ∨ (n ≤ 100 ∧ lo = 17)) : ∃ e' H', GoodE Tryz.prog (fun _ => some s) lit4.body ([g, pv, .syms 0 lo 9223372036854775807] ++ u161) [] .ret e' H' ∧ e'.getD 6 V.undef = .bool true := by
  rw [ls_body]
  generalize he0 : ([g, pv, .syms 0 lo 9223372036854775807] ++ u161 : Env) = e0
  have l0 : e0.length = 164 := by rw [← he0]; rfl
  have a0 : Agr 7 e0 ([V.undef, V.undef, V.undef] ++ u161) := by
    rw [← he0]
    refine ⟨rfl, fun t h => ?_⟩
    match t, h with
    | 0, h => exact absurd h (by decide)
    | 1, h => exact absurd h (by decide)
    | 2, h => exact absurd h (by decide)
    | t + 3, _ => rfl
  have b6 : ∀ {t : Nat}, (6 : Nat).testBit t = true → t = 1 ∨ t = 2 := by
    intro t h
    rw [show (6 : Nat) = 2 ^ 1 ||| 2 ^ 2 from rfl, Nat.testBit_or, Nat.testBit_two_pow, Nat.testBit_two_pow, Bool.or_eq_true, decide_eq_true_eq, decide_eq_true_eq] at h
    omega
  have f0 : Firm 6 e0 := by
    intro t h μ
    rcases b6 h with rfl | rfl
    · rw [← he0]; exact hl.firm μ
    · rw [← he0]; rfl
  obtain ⟨outs, c1, c2⟩ := chk_and (show (chk (app lsP .skip) 7).map (fun outs => exD outs .normal &&& 0) = some 0 by kernel_rfl)
  obtain ⟨e01, L1, q1, μ1, e1, q2, _, q4, q5, q6⟩ := phaseM_ok (Keep := 6) law3_sim lsP_s c1 c2 (show wrt (app lsP .skip) &&& 6 = 0 by kernel_rfl) (by decide +kernel) hp a0 f0
  have lt0 : ∀ {t : Nat}, t < 164 → t < e0.length := fun h => by rw [l0]; exact h
  have l1 : e1.length = 164 := by rw [q2, l0]
  have k1 : e1.getD 1 V.undef = pv := by rw [q5 1 (lt0 (by decide)) (by decide), ← he0]; rfl
  have k2 : e1.getD 2 V.undef = .syms 0 lo 9223372036854775807 := by rw [q5 2 (lt0 (by decide)) (by decide), ← he0]; rfl
  have hd : Does law3 cL e1 [] fun e2 => Same18 e2 e1 ∧ e2.getD 25 V.undef = .bool true := by
    rcases h with h | ⟨h, rfl⟩
    · exact cL_more l1 k1 hl.len h
    · exact cL_text (x := ⟨none, 0, 17, 9223372036854775807, 1, 0⟩) l1 k1 k2 hl.len h rfl rfl
  obtain ⟨e2, r1, r2, r3⟩ := does_eval hd 3000
  have hL : evalCode law3 3000 lsL e1 [] = some (.ret, e2.set 6 (.bool true), []) := by
    unfold lsL
    simp only [evalCode] at r1 ⊢
    rw [r1]
    simp only [Opd.ev, r3]
    rfl
  exact ⟨_, _, good_app tryzMixed law3_ok lsP q1 (good_inM q6 (good_seq_out (by simp) (good_eval tryzMixed law3_ok 3000 hL))), by rw [set_getD, if_pos ⟨rfl, by rw [r2.1]; decide⟩]⟩
end

theorem ls_lit : cFunc Tryz.prog Tryz.f4 = some lit4 := by
  have h := lit4_ok
  unfold funcE at h
  split at h
  · rw [show Tryz.prog.funcs[4]? = some Tryz.f4 from Tryz.func4] at h; exact h
  · simp at h

/-- What a call does. -/
def Goes (args : Array Value) (W : World) : Prop := Calls Tryz.prog 4 args W fun e W' => e = .returned (.bool true) ∧ Below W.heap.size W W'

/-- Memory as it is when the call begins, with a name for the text. -/
def viewS (W : World) (s : ByteArray) : Ren := ⟨fun _ _ => none, fun _ => none, (Ren.view W).im, fun _ => none, fun _ => some s⟩

theorem viewS_rel (W : World) (s : ByteArray) : Rel (viewS W s) (([] : Heap)[·]?) W := by
  have h := Rel.view (([] : Heap)[·]?) W
  refine ⟨fun _ _ _ h => by simp [viewS] at h, fun _ _ _ _ _ _ h => by simp [viewS] at h, fun _ _ h => by simp [viewS] at h, fun _ _ _ h => by simp [viewS] at h, fun r j x e => ?_, fun _ _ _ _ _ _ _ h => by simp [viewS] at h⟩
  have e' : (match W.heap[r]? with | some (.cells c _ _) => (c[j]?).bind absOf | _ => none) = some x := e
  split at e'
  · rename_i c t fz hb
    rw [Option.bind_eq_some_iff] at e'
    obtain ⟨y, hy, hx⟩ := e'
    exact ⟨c, t, fz, y, hb, hy, absOf_vr hx⟩
  · simp at e'

theorem ls_calls {args : List V} {args' : Array Value} {s : ByteArray} {W : World} (hargs : VRL (viewS W s) args args'.toList) (hlen : args.length = 3)
    (h : ∃ e' H', GoodE Tryz.prog (fun _ => some s) lit4.body (args ++ u161) [] .ret e' H' ∧ e'.getD 6 V.undef = .bool true) : Goes args' W := by
  obtain ⟨e', H', q1, q2⟩ := h
  refine good_callsR (fn := Tryz.f4) (ef := lit4) (t := 6) Tryz.func4 ls_lit rfl (R := viewS W s) (H' := H') (fun _ _ => rfl) (fun _ => rfl) hargs (viewS_rel W s) (by rw [hlen]; decide) (.inr rfl) ?_ q2
  rw [hlen]
  exact q1

theorem long_ok : phaseM ctx3 3000 164 (app lsP .skip) ([V.undef, V.undef, V.undef] ++ u161) [] (fun _ => []) 0 ([V.undef, V.undef, V.undef] ++ u161) [] = true := by kernel_rfl

/-- What the kernel reckons of a state. -/
noncomputable def stp (a : Nat) (hS : Nat → Heap) (kd nA nB : Nat → Nat) (s : Nat) : Bool :=
  match kd s with
  | 0 => goX a (.ops lose) (hS s) (hS (nA s)) && goX a (.ops take) (hS s) (hS (nB s))
  | 1 => goX a lsK (hS s) (hS (nA s))
  | 2 => goX a lsK (hS s) (hS (nA s))
  | _ => goZ (hS s)

/-- .. and of its numbers. -/
def slotLen (H : Heap) (j x : Nat) : Option Nat := match loadE false 1 (.ptr 0 0 j x) H with | some v => lenK false v | none => none
def fct (M : Nat) (hS : Nat → Heap) (kd nA nB mu de : Nat → Nat) (s : Nat) : Bool :=
  (match slotLen (hS s) 7 2, slotLen (hS s) 8 1 with | some m, some t => (match kd s with | 0 => Nat.blt 0 m | 3 => Nat.blt 0 t | _ => Nat.beq m 0) | _, _ => false) &&
  ((Nat.ble (mu s) 150 && (Nat.ble 1 (de s) && Nat.ble (de s) 15)) &&
  (match kd s with
   | 0 => (Nat.blt (nA s) M && (Nat.ble (kd (nA s)) 2 && Nat.blt (mu (nA s)) (mu s))) && (Nat.blt (nB s) M && (Nat.ble (kd (nB s)) 2 && (Nat.blt (mu (nB s)) (mu s) && Nat.ble (de (nB s)) (de s))))
   | 1 => Nat.blt (nA s) M && (Nat.beq (kd (nA s)) 0 && (Nat.ble (de (nA s) + 1) (de s) && (match slotLen (hS (nA s)) 8 1 with | some t => Nat.beq t 0 | none => false)))
   | 2 => Nat.blt (nA s) M && Nat.beq (kd (nA s)) 3
   | _ => true))

theorem slotLen_some {H : Heap} {j x m : Nat} (h : slotLen H j x = some m) : ∃ v, loadE false 1 (.ptr 0 0 j x) H = some v ∧ lenK false v = some m := by
  unfold slotLen at h
  split at h
  · rename_i v hv; exact ⟨v, hv, h⟩
  · simp at h

theorem blt_lt {a b : Nat} (h : Nat.blt a b = true) : a < b := by
  unfold Nat.blt at h
  exact Nat.le_of_ble_eq_true h

theorem sys_of {a M : Nat} {hS : Nat → Heap} {kd nA nB mu de : Nat → Nat} (hf : ∀ s, s < M → fct M hS kd nA nB mu de s = true) (hs : ∀ s, s < M → stp a hS kd nA nB s = true) : Sys M hS kd nA nB mu de ∧ ∀ q, q < M → kd q = 3 → goZ (hS q) = true := by
  have lens : ∀ s, s < M → ∃ m t, slotLen (hS s) 7 2 = some m ∧ slotLen (hS s) 8 1 = some t ∧ (match kd s with | 0 => Nat.blt 0 m | 3 => Nat.blt 0 t | _ => Nat.beq m 0) = true := by
    intro s h
    have := hf s h
    unfold fct at this
    rw [Bool.and_eq_true] at this
    have := this.1
    split at this
    · rename_i m t hm ht; exact ⟨m, t, hm, ht, this⟩
    · simp at this
  have rest : ∀ s, s < M → _ := fun s h => by
    have := hf s h
    unfold fct at this
    rw [Bool.and_eq_true, Bool.and_eq_true] at this
    exact this.2
  have step : ∀ s, s < M → kd s = 0 → goX a (.ops lose) (hS s) (hS (nA s)) = true ∧ goX a (.ops take) (hS s) (hS (nB s)) = true := fun s h hk => by
    have := hs s h
    unfold stp at this
    rw [hk] at this
    simpa using this
  refine ⟨⟨fun s h => ?_, fun s h => ?_, fun s h hk => ?_, fun s h hk => ?_, fun s h hk => ?_, fun s h hk => ?_, fun s h => ?_⟩, fun q h hk => ?_⟩
  · obtain ⟨m, t, h1, _, h3⟩ := lens s h
    obtain ⟨v, v1, v2⟩ := slotLen_some h1
    refine ⟨v, m, v1, v2, fun hk => ?_, fun hk => ?_⟩
    · rw [hk] at h3; exact blt_lt h3
    · rcases hk with hk | hk <;> (rw [hk] at h3; exact Nat.eq_of_beq_eq_true h3)
  · obtain ⟨m, t, _, h2, h3⟩ := lens s h
    obtain ⟨v, v1, v2⟩ := slotLen_some h2
    exact ⟨v, t, v1, v2, fun hk => by rw [hk] at h3; have := blt_lt h3; omega⟩
  · have := (rest s h).2
    rw [hk] at this
    simp only [Bool.and_eq_true] at this
    exact ⟨blt_lt this.1.1, Nat.le_of_ble_eq_true this.1.2.1, blt_lt this.1.2.2, step_of lose_s lose_c lose_w (step s h hk).1⟩
  · have := (rest s h).2
    rw [hk] at this
    simp only [Bool.and_eq_true] at this
    exact ⟨blt_lt this.2.1, Nat.le_of_ble_eq_true this.2.2.1, blt_lt this.2.2.2.1, Nat.le_of_ble_eq_true this.2.2.2.2, step_of take_s take_c take_w (step s h hk).2⟩
  · have := (rest s h).2
    rw [hk] at this
    simp only [Bool.and_eq_true] at this
    obtain ⟨t1, t2, t3, t4⟩ := this
    have hg := hs s h
    unfold stp at hg
    rw [hk] at hg
    split at t4
    · rename_i t ht
      have h0 := Nat.eq_of_beq_eq_true t4
      subst h0
      exact ⟨blt_lt t1, Nat.eq_of_beq_eq_true t2, Nat.le_of_ble_eq_true t3, slotLen_some ht, step_of lsK_s lsK_c lsK_w hg⟩
    · simp at t4
  · have := (rest s h).2
    rw [hk] at this
    simp only [Bool.and_eq_true] at this
    have hg := hs s h
    unfold stp at hg
    rw [hk] at hg
    exact ⟨blt_lt this.1, Nat.eq_of_beq_eq_true this.2, step_of lsK_s lsK_c lsK_w hg⟩
  · have := (rest s h).1
    simp only [Bool.and_eq_true] at this
    exact ⟨Nat.le_of_ble_eq_true this.1, Nat.le_of_ble_eq_true this.2.1, Nat.le_of_ble_eq_true this.2.2⟩
  · have hg := hs q h
    unfold stp at hg
    rw [hk] at hg
    exact hg

end Go.PE
