/- GroupMoves with many writes: its first round, and the others behind a checkpoint. -/
import Derived.Test.YtcgjkbnijnefjaaGreatDoorMvM
import Derived.KernelRfl
namespace Go.PE
open Go.Proofs Go.RowKit
set_option maxRecDepth 100000

theorem loop_good {P : Program} (hm : P.follows .mixedOrders = true) {X : Ctx} {fuel : Nat} (hX : ∀ f, CallOK P f (X f)) {c : ECode} : ∀ (n : Nat) {e e' : Env} {H H' : Heap} {x : Ex}, loopE (evalCode X fuel c) n e H = some (x, e', H') → ∃ m, GoodN P c m e H x e' H'
  | 0, e, e', H, H', x, h => by simp [loopE] at h
  | n + 1, e, e', H, H', x, h => by
    simp only [loopE] at h
    split at h
    · rename_i e1 H1 h1
      obtain ⟨m, hm'⟩ := loop_good hm hX n h
      exact ⟨m + 1, goodN_more (good_eval hm hX fuel h1) hm'⟩
    · rename_i hn
      refine ⟨1, goodN_last ?_ (good_eval hm hX fuel h)⟩
      rintro rfl
      exact hn _ _ h

/-- One round ahead of a loop that has been reckoned. -/
theorem loop_more {P : Program} (hm : P.follows .mixedOrders = true) {X : Ctx} {fuel : Nat} (hX : ∀ f, CallOK P f (X f)) {c : ECode} {id : Nat} {e e1 e2 : Env} {H H1 H2 : Heap} {x : Ex} (h1 : GoodE P c e H .normal e1 H1)
    (h2 : evalCode X fuel (.block id (.loop c)) e1 H1 = some (x, e2, H2)) : GoodE P (.block id (.loop c)) e H x e2 H2 := by
  have key : ∃ x', evalCode X fuel (.loop c) e1 H1 = some (x', e2, H2) ∧ x = x'.inB id := by
    simp only [evalCode] at h2 ⊢
    split at h2
    · rename_i i e3 H3 h3
      simp only [Option.some.injEq, Prod.mk.injEq] at h2
      obtain ⟨rfl, rfl, rfl⟩ := h2
      exact ⟨_, h3, rfl⟩
    · rename_i hn
      refine ⟨x, h2, ?_⟩
      cases x with
      | exit i => exact absurd h2 (hn _ _ _)
      | _ => rfl
  obtain ⟨x', h3, rfl⟩ := key
  simp only [evalCode] at h3
  obtain ⟨m, h4⟩ := loop_good hm hX fuel h3
  exact good_block (good_loop (goodN_more h1 h4))

/-- The last phase, as a run of the evaluator. -/
theorem last_eval {XK : CtxK} {X : Ctx} (hX : Sim XK X) {fuel N : Nat} {c : ECode} {e : Env} {H : Heap} {D D1 t : Nat} {outs : Outs}
    (hs : strip c = c) (hc : chk c D = some outs) (hD : exD outs .ret = D1) (ht : D1.testBit t = false) (h : lastS XK fuel N c e H t = true) {e0 : Env} (ha : Agr D e0 e) :
    ∃ e' H', evalCode X fuel c e0 H = some (.ret, e', H') ∧ e'.getD t V.undef = .bool true := by
  unfold lastS at h
  obtain ⟨h1, h⟩ := bfalse h
  obtain ⟨h2, h⟩ := bfalse h
  cases hr : codeS N XK fuel c e (heapT H) (outS .normal) outS with
  | none => rw [hr] at h; exact absurd (show false = true from h) (by simp)
  | some p =>
    rw [hr] at h
    have hH := heapT_ok (Nat.le_of_ble_eq_true h2)
    have hl := Nat.eq_of_beq_eq_true h1
    obtain ⟨x, e1, H1, L1, q1, q2, q3, q4⟩ := codeS_sim hX (N := N) fuel c e (heapT H) H (outS .normal) outS p hl hH hr
    have hp : p = (.tup [exV x, .tup e1], H1) := by
      cases x <;> exact (Option.some.inj q4).symm
    subst hp
    have h : (V.beq (exV x) (exV .ret) && V.beq (e1.getD t V.undef) (.bool true)) = true := h
    simp only [Bool.and_eq_true] at h
    have hx := exV_inj (V.beq_eq _ _ h.1)
    subst hx
    obtain ⟨e01, D2, r1, r2, r3⟩ := kill_code (X := X) (fuel := fuel) c D outs hc e0 e e1 H L1 .ret ha q1
    rw [hs] at r1
    refine ⟨e01, L1, r1, ?_⟩
    have hag : Agr D1 e01 e1 := r3.sup fun u hu => by rw [← hD]; exact exD_sup r2 hu
    rw [hag.eq t ht]
    exact V.beq_eq _ _ h.2

def mvI : ECode := .ops [⟨some 13, .move (.c (.int .i64 0)), none⟩]
def mvOL : ECode := match spineAt 9 lit6.body with | .seq _ (.block _ (.loop c)) => c | _ => .fail
def mvR2 : ECode := restAt 10 lit6.body
theorem mv_rest : mvRest = .seq (.seq mvI (.block 0 (.loop mvOL))) mvR2 := by kernel_rfl

/-- Slots that the rounds don't touch. -/
def DO : Nat := (2 ^ 54 - 1) ^^^ (2 ^ 1 ||| 2 ^ 8 ||| 2 ^ 9 ||| 2 ^ 10 ||| 2 ^ 11 ||| 2 ^ 12 ||| 2 ^ 13 ||| 2 ^ 14 ||| 2 ^ 15)
def DL : Nat := (2 ^ 100 - 1) ^^^ (2 ^ 1 ||| 2 ^ 9 ||| 2 ^ 10 ||| 2 ^ 11 ||| 2 ^ 12 ||| 2 ^ 13)
theorem mvO_s : strip mvOL = mvOL := by kernel_rfl
theorem mvO_c : (chk mvOL DO).map (fun outs => (exD outs .normal, wrt mvOL &&& DO)) = some (DO, 0) := by kernel_rfl
theorem mvL_s : strip (.seq (.block 0 (.loop mvOL)) mvR2) = .seq (.block 0 (.loop mvOL)) mvR2 := by kernel_rfl
theorem mvL_c : (chk (.seq (.block 0 (.loop mvOL)) mvR2) DL).map (fun outs => (exD outs .ret).testBit 8) = some false := by kernel_rfl

/-- Slots of D that a renumbering leaves as they are. -/
def rgB (D : Nat) (π : List Nat) (e : Env) : Bool := (List.range e.length).all fun t => !D.testBit t || match V.ren (π[·]?) (e.getD t V.undef) with | some v => V.beq v (e.getD t V.undef) | none => false
theorem rgB_ok {D : Nat} {π : List Nat} {e : Env} (h : rgB D π e = true) {t : Nat} (ht : D.testBit t = true) : V.ren (π[·]?) (e.getD t V.undef) = some (e.getD t V.undef) := by
  by_cases hlt : t < e.length
  · have := List.all_eq_true.1 h t (List.mem_range.2 hlt)
    rw [ht] at this
    simp only [Bool.not_true, Bool.false_or] at this
    split at this
    · rename_i v hv
      rw [hv, V.beq_eq _ _ this]
    · simp at this
  · rw [List.getD_eq_getElem?_getD, List.getElem?_eq_none (by omega)]
    rfl

noncomputable def eO (eP : Env) (n : Nat) : Env := ((eR eP n).set 13 (.int .i64 0)).set 8 (.bool false)
noncomputable def eL (eK : Env) : Env := ((((((List.replicate 100 V.undef).set 1 (eK.getD 1 V.undef)).set 9 (eK.getD 9 V.undef)).set 10 (eK.getD 10 V.undef)).set 11 (eK.getD 11 V.undef)).set 12 (eK.getD 12 V.undef)).set 13 (eK.getD 13 V.undef)

/-- What the kernel reckons: the first round; the others. -/
noncomputable def rO (eP : Env) (hP : Heap) (n : Nat) (π : List Nat) (eK : Env) (hK : Heap) : Bool :=
  (Nat.beq eK.length 100 && (rgB DO π eP && (List.range 100).all fun t => DO.testBit t || (Nat.beq t 1 || (Nat.beq t 13 || V.beq (eP.getD t V.undef) ((eO eP n).getD t V.undef))))) && phaseS ctx3 3000 100 mvOL (eO eP n) hP .normal π DO eK hK
noncomputable def rL2 (eK : Env) (hK : Heap) : Bool := lastS ctx3 3000 100 (.seq (.block 0 (.loop mvOL)) mvR2) (eL eK) hK 8

theorem DO_bit {t : Nat} (h : DO.testBit t = true) : t ≠ 1 ∧ t ≠ 13 := by
  constructor <;> (rintro rfl; revert h; decide +kernel)

theorem mv_all2 {g w n : Nat} {b : Bool} {π πK : List Nat} {eP eK : Env} {hP hK : Heap} (hp : rP g w b π eP hP = true) (ho : rO eP hP n πK eK hK = true) (hr : rL2 eK hK = true) :
    ∃ e' H', GoodE Tryz.prog lit6.body ([modV .u8 4 g, modV .u8 9 n, modV .u8 3 w, .bool b] ++ u96) [] .ret e' H' ∧ e'.getD 8 V.undef = .bool true := by
  unfold rP at hp
  rw [Bool.and_eq_true] at hp
  have len := Nat.eq_of_beq_eq_true hp.1
  unfold rO at ho
  simp only [Bool.and_eq_true] at ho
  obtain ⟨⟨o1, o2, o3⟩, o4⟩ := ho
  have lenK := Nat.eq_of_beq_eq_true o1
  rw [mv_body]
  generalize he0 : ([modV .u8 4 g, modV .u8 9 n, modV .u8 3 w, .bool b] ++ u96 : Env) = e0
  have l0 : e0.length = 100 := by rw [← he0]; rfl
  have one : e0.getD 1 V.undef = modV .u8 9 n := by rw [← he0]; rfl
  have g2 : ∀ t, t < 100 → (mixD 2 e0 eP).getD t V.undef = if (2 : Nat).testBit t then e0.getD t V.undef else eP.getD t V.undef := fun t h => mixD_getD (by rw [len]; exact h)
  have g2' : ∀ t, t < 100 → t ≠ 1 → (mixD 2 e0 eP).getD t V.undef = eP.getD t V.undef := fun t h h1 => by
    rw [g2 t h, if_neg (fun c => h1 (two_bit.1 c))]
  have lm : (mixD 2 e0 eP).length = 100 := by rw [mixD_len, len]
  -- the first round
  have hI : evalCode law3 3000 mvI (mixD 2 e0 eP) hP = some (.normal, (mixD 2 e0 eP).set 13 (.int .i64 0), hP) := rfl
  have agO : Agr DO ((mixD 2 e0 eP).set 13 (.int .i64 0)) (eO eP n) := by
    refine ⟨by simp [lm, eO, eR], fun t h => ?_⟩
    by_cases hlt : t < 100
    · by_cases h13 : t = 13
      · subst h13
        rw [set_getD, if_pos ⟨rfl, by rw [lm]; decide⟩]; rfl
      · rw [set_getD, if_neg (fun c => h13 c.1)]
        by_cases h1 : t = 1
        · subst h1
          rw [g2 1 (by decide), if_pos (two_bit.2 rfl), one]; rfl
        · rw [g2' t hlt h1]
          have := List.all_eq_true.1 o3 t (List.mem_range.2 hlt)
          simp only [Bool.or_eq_true] at this
          rcases this with q | q | q | q
          · rw [h] at q; simp at q
          · exact absurd (Nat.eq_of_beq_eq_true q) h1
          · exact absurd (Nat.eq_of_beq_eq_true q) h13
          · exact V.beq_eq _ _ q
    · rw [List.getD_eq_getElem?_getD, List.getD_eq_getElem?_getD, List.getElem?_eq_none (by simp [lm]; omega), List.getElem?_eq_none (by simp [eO, eR]; omega)]
  have rigO : ∀ t, DO.testBit t = true → V.ren (πK[·]?) (((mixD 2 e0 eP).set 13 (.int .i64 0)).getD t V.undef) = some (((mixD 2 e0 eP).set 13 (.int .i64 0)).getD t V.undef) := by
    intro t h
    obtain ⟨n1, n13⟩ := DO_bit h
    rw [set_getD, if_neg (fun c => n13 c.1)]
    by_cases hlt : t < 100
    · rw [g2' t hlt n1]; exact rgB_ok o2 h
    · rw [List.getD_eq_getElem?_getD, List.getElem?_eq_none (by rw [lm]; omega)]; rfl
  obtain ⟨outsO, a1, a2, a3⟩ := chk_of mvO_c
  have GO := good_phaseD tryzMixed law3_sim law3_ok mvO_s a1 a2 a3 o4 agO rigO
  generalize hE : (mixD 2 e0 eP).set 13 (.int .i64 0) = eI at GO hI
  -- the others
  have lK : (mixD DO eI eK).length = 100 := by rw [mixD_len, lenK]
  have agL : Agr DL (mixD DO eI eK) (eL eK) := by
    refine ⟨by rw [lK]; simp [eL], fun t h => ?_⟩
    by_cases hlt : t < 100
    · have key : ∀ t, t < 100 → DL.testBit t = false → DO.testBit t = false ∧ (t = 1 ∨ t = 9 ∨ t = 10 ∨ t = 11 ∨ t = 12 ∨ t = 13) := by decide +kernel
      obtain ⟨k1, k2⟩ := key t hlt h
      rw [mixD_getD (by rw [lenK]; exact hlt), k1]
      rcases k2 with rfl | rfl | rfl | rfl | rfl | rfl <;> rfl
    · rw [List.getD_eq_getElem?_getD, List.getD_eq_getElem?_getD, List.getElem?_eq_none (by rw [lK]; omega), List.getElem?_eq_none (by simp [eL]; omega)]
  obtain ⟨outsL, c1, c2⟩ := Option.map_eq_some_iff.1 mvL_c
  obtain ⟨e', H', q1, q2⟩ := last_eval law3_sim mvL_s c1 rfl c2 hr agL
  refine ⟨e', H', ?_, q2⟩
  obtain ⟨outsP, d1, d2, d3⟩ := chk_of mvP_c
  have agP : Agr 2 e0 (eP0 g w b) := by
    rw [← he0]
    refine ⟨rfl, fun t h => ?_⟩
    match t, h with
    | 0, _ => rfl
    | 1, h => exact absurd h (by decide)
    | 2, _ => rfl
    | 3, _ => rfl
    | t + 4, _ => rfl
  refine good_phases tryzMixed law2_sim law2_ok mvP_s d1 d2 d3 hp.2 agP (fun t h => by
    have := two_bit.1 h
    subst this
    rw [one]; rfl) ?_
  rw [mv_rest]
  have gI := good_eval tryzMixed law3_ok 3000 hI
  simp only [evalCode] at q1
  split at q1
  · rename_i e3 H3 h3
    exact good_seq (good_seq gI (loop_more tryzMixed law3_ok GO (by simp only [evalCode]; exact h3))) (good_eval tryzMixed law3_ok 3000 q1)
  · exact good_seq_out (by simp) (good_seq gI (loop_more tryzMixed law3_ok GO (by simp only [evalCode]; exact q1)))

/-- The call, from its class. -/
theorem mv_calls2 {g w n : Nat} {b : Bool} {π πK : List Nat} {eP eK : Env} {hP hK : Heap} (hp : rP g w b π eP hP = true) (ho : rO eP hP n πK eK hK = true) (hr : rL2 eK hK = true) {x y z : Int} (hx : 0 ≤ x ∧ x < 256) (hy : 0 ≤ y ∧ y < 256) (hz : 0 ≤ z ∧ z < 256)
    (hg : x % 4 = g) (hn : y % 9 = n) (hw : z % 3 = w) (W : World) : Calls Tryz.prog 6 #[.int .u8 x, .int .u8 y, .int .u8 z, .bool b] W fun e W' => e = .returned (.bool true) ∧ Below W.heap.size W W' := by
  obtain ⟨e', H', q1, q2⟩ := mv_all2 hp ho hr
  exact good_callsA (fn := Tryz.f6) (ef := lit6) (t := 8) Tryz.func6 mv_lit rfl (args := [modV .u8 4 g, modV .u8 9 n, modV .u8 3 w, .bool b]) (R := ⟨fun _ _ => none, fun _ => none, fun _ _ => none, fun _ => none, fun _ => none⟩) (fun _ _ => rfl) (fun _ => rfl) (fun _ _ => rfl)
    (.cons (modV_ok hx.1 hx.2 (by decide) hg) (.cons (modV_ok hy.1 hy.2 (by decide) hn) (.cons (modV_ok hz.1 hz.2 (by decide) hw) (.cons (.bool b) .nil)))) (show 4 ≤ 100 by decide) (.inr rfl) q1 q2

end Go.PE
