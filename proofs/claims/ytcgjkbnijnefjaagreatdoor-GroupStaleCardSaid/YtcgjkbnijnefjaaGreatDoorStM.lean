/- GroupStale: from what the kernel has reckoned of one class to the end of the run, whatever the list of picks. -/
import Derived.Test.YtcgjkbnijnefjaaGreatDoorStL
namespace Go.PE
open Go.Proofs Go.RowKit
set_option maxRecDepth 100000

theorem mask_bit : ∀ (l : List Nat) (n : Nat), (l.foldr (fun t s => 2 ^ t ||| s) 0).testBit n = l.contains n
  | [], n => by simp
  | t :: l, n => by
    simp only [List.foldr_cons, bit_or, Nat.testBit_two_pow, mask_bit l n, List.contains_cons]
    by_cases h : t = n
    · subst h; simp
    · have h' : ¬ n = t := fun c => h c.symm
      simp [h, h']

theorem chk_of {c : ECode} {D D1 a : Nat} {ex : Ex} (h : (chk c D).map (fun outs => (exD outs ex, wrt c &&& D1)) = some (a, 0)) : ∃ outs, chk c D = some outs ∧ exD outs ex = a ∧ wrt c &&& D1 = 0 := by
  rw [Option.map_eq_some_iff] at h
  obtain ⟨outs, h1, h2⟩ := h
  simp only [Prod.mk.injEq] at h2
  exact ⟨outs, h1, h2.1, h2.2⟩

theorem DC_bit {t : Nat} : DC.testBit t = true ↔ t = 2 ∨ t = 20 ∨ t = 21 := by
  simp only [DC, bit_or, Nat.testBit_two_pow, Bool.or_eq_true, decide_eq_true_eq]
  omega

theorem four_bit {t : Nat} : (4 : Nat).testBit t = true ↔ t = 2 := by
  rw [show (4 : Nat) = 2 ^ 2 from rfl, Nat.testBit_two_pow, decide_eq_true_eq]
  omega

theorem DL_bit {t : Nat} : DL.testBit t = true ↔ t ∈ dlL := by unfold DL; rw [mask_bit, List.contains_iff_mem]
theorem DD_bit {t : Nat} : DD.testBit t = true ↔ t ∈ ddL := by unfold DD; rw [mask_bit, List.contains_iff_mem]
theorem DB1_bit {t : Nat} : DB1.testBit t = true ↔ t ∈ dlL ∧ t ≠ 117 ∧ t ≠ 125 := by
  unfold DB1; rw [mask_bit, List.contains_iff_mem, List.mem_filter]; simp
theorem DB_bit {t : Nat} : DB.testBit t = true ↔ (t ∈ dlL ∧ t ≠ 117 ∧ t ≠ 125) ∨ t ∈ ddL := by
  unfold DB; rw [bit_or, Bool.or_eq_true, DB1_bit, DD_bit]

def eA (g r : Nat) : Env := ((([modV .u8 4 g, modV .u8 6 r] ++ List.replicate 167 V.undef).set 6 (.bool false)).set 18 (.bool true)).set 19 (.bool false)

/-- What the dead slots hold behind a round. -/
def deadE (l : List V) : Env := (List.range 169).map fun t => if t = 16 then l.getD 0 V.undef else if 126 ≤ t ∧ t ≤ 148 then l.getD (t - 125) V.undef else V.undef
def eT (dead : List V) (eP : Env) (all : V) (j : Nat) : Env := ((mixD DD (deadE dead) eP).set 117 all).set 125 (.int .i64 (j : Int))

/-- What the kernel has reckoned of one class. -/
structure StData (g r : Nat) (eP : Env) (HP : Heap) (π : List Nat) (all : V) (M : Nat) (dead : Nat → List V) : Prop where
  a : phaseS ctx2 3000 169 (app stA .skip) ([modV .u8 4 g, modV .u8 6 r] ++ List.replicate 167 V.undef) [] .normal [] 4 (eA g r) [] = true
  c : phaseS ctx2 3000 169 (app stC .skip) ((eA g r).set 22 (.bool false)) [] .normal π DC eP HP = true
  closed : closedB HP = true
  body : ∀ j, j < M → stayS ctx2 3000 169 stB ((eP.set 117 all).set 125 (.int .i64 (j : Int))) HP .normal DB1 (eT (dead j) eP all j) = some (true, (List.range HP.length).map (heapT HP).get)
  rest : lastS ctx2 3000 169 stRest eP HP 6 = true
  len : eP.length = 169
  own : ∀ t ∈ dlL, V.ren ((List.range HP.length)[·]?) (eP.getD t V.undef) = some (eP.getD t V.undef)
  a8 : eP.getD 8 V.undef = all
  hM : lenK false all = some M
  M0 : 0 < M
  rall : V.ren ((List.range HP.length)[·]?) all = some all

/-- A list of picks. -/
structure Picks (pv : V) (L : Nat) : Prop where
  len : lenK false pv = some L
  ren : ∀ π, V.ren π pv = some pv
  idx : ∀ i, i < L → ∃ c : Nat, c < 256 ∧ indexAddrSlE 1 pv (.int .i64 (i : Int)) = some (.pptr [.int .u8 (c : Int)])

/-- The state at the loop's head. -/
structure StInv (eP : Env) (n : Nat) (pv : V) (i : Nat) (e : Env) : Prop where
  len : e.length = 169
  eq : ∀ t, t ∉ dlL → t ∉ ddL → e.getD t V.undef = eP.getD t V.undef
  pick : e.getD 2 V.undef = pv
  cnt : e.getD 15 V.undef = .int .i64 (i : Int)
  own : ∀ t ∈ dlL, V.ren ((List.range n)[·]?) (e.getD t V.undef) = some (e.getD t V.undef)

theorem set_rig {π : Nat → Option Nat} {e : Env} {k t : Nat} {v : V} (hv : V.ren π v = some v) (h : V.ren π (e.getD t V.undef) = some (e.getD t V.undef)) : V.ren π ((e.set k v).getD t V.undef) = some ((e.set k v).getD t V.undef) := by
  rw [set_getD]
  split
  · exact hv
  · exact h

section
variable {g r : Nat} {eP : Env} {HP : Heap} {π : List Nat} {all : V} {M : Nat} {dead : Nat → List V} {pv : V} {L : Nat}

/-- Behind the loop's test. -/
theorem tested_inv (_ : StData g r eP HP π all M dead) (hp : Picks pv L) {i : Nat} {e : Env} (h : StInv eP HP.length pv i e) : StInv eP HP.length pv i (stTested e pv i L) := by
  unfold stTested
  refine ⟨by simp [h.len], fun t h1 h2 => ?_, ?_, ?_, fun t ht => ?_⟩
  · have n1 : t ≠ 111 := fun c => h1 (by subst c; decide)
    have n2 : t ≠ 112 := fun c => h1 (by subst c; decide)
    have n3 : t ≠ 113 := fun c => h1 (by subst c; decide)
    have n4 : t ≠ 114 := fun c => h1 (by subst c; decide)
    rw [get_ne n4, get_ne n3, get_ne n2, get_ne n1]; exact h.eq t h1 h2
  · rw [get_ne (by decide), get_ne (by decide), get_ne (by decide), get_ne (by decide)]; exact h.pick
  · rw [get_ne (by decide), get_ne (by decide), get_ne (by decide), get_ne (by decide)]; exact h.cnt
  · exact set_rig rfl (set_rig rfl (set_rig (hp.ren _) (set_rig rfl (h.own t ht))))

theorem read_inv (D : StData g r eP HP π all M dead) (hp : Picks pv L) {i c : Nat} {e : Env} (h : StInv eP HP.length pv i e) : StInv eP HP.length pv i (stRead e pv all i c M) := by
  unfold stRead
  refine ⟨by simp [h.len], fun t h1 h2 => ?_, ?_, ?_, fun t ht => ?_⟩
  · have n1 : t ≠ 117 := fun c => h1 (by subst c; decide)
    have n2 : t ≠ 118 := fun c => h1 (by subst c; decide)
    have n3 : t ≠ 119 := fun c => h1 (by subst c; decide)
    have n4 : t ≠ 120 := fun c => h1 (by subst c; decide)
    have n5 : t ≠ 121 := fun c => h1 (by subst c; decide)
    have n6 : t ≠ 122 := fun c => h1 (by subst c; decide)
    have n7 : t ≠ 123 := fun c => h1 (by subst c; decide)
    have n8 : t ≠ 124 := fun c => h1 (by subst c; decide)
    have n9 : t ≠ 125 := fun c => h1 (by subst c; decide)
    rw [get_ne n9, get_ne n8, get_ne n7, get_ne n6, get_ne n5, get_ne n4, get_ne n3, get_ne n2, get_ne n1]; exact h.eq t h1 h2
  · rw [get_ne (by decide), get_ne (by decide), get_ne (by decide), get_ne (by decide), get_ne (by decide), get_ne (by decide), get_ne (by decide), get_ne (by decide), get_ne (by decide)]; exact h.pick
  · rw [get_ne (by decide), get_ne (by decide), get_ne (by decide), get_ne (by decide), get_ne (by decide), get_ne (by decide), get_ne (by decide), get_ne (by decide), get_ne (by decide)]; exact h.cnt
  · exact set_rig rfl (set_rig rfl (set_rig D.rall (set_rig rfl (set_rig rfl (set_rig rfl (set_rig rfl (set_rig (hp.ren _) (set_rig D.rall (h.own t ht)))))))))

/-- One round. -/
theorem st_round (D : StData g r eP HP π all M dead) (hp : Picks pv L) {i : Nat} (hi : i < L) (hL : L ≤ 60) {e : Env} (h : StInv eP HP.length pv i e) :
    ∃ e', StInv eP HP.length pv (i + 1) e' ∧ GoodE Tryz.prog stLoop e HP .normal e' HP := by
  obtain ⟨c, hc, hix⟩ := hp.idx i hi
  have hT := st_T_run law2 3000 h.len h.pick hp.len h.cnt HP
  rw [if_pos hi] at hT
  have i1 := tested_inv D hp h
  have h8 : (stTested e pv i L).getD 8 V.undef = all := by rw [i1.eq 8 (by decide) (by decide), D.a8]
  have hR := st_ops1_run law2 i1.len i1.pick h8 i1.cnt hix hc D.hM D.M0 HP
  have i2 := read_inv D hp (c := c) i1
  have hj : c % M < M := Nat.mod_lt _ D.M0
  obtain ⟨outs, k1, k2, k3⟩ := chk_of stB_c
  have ha : Agr DB (stRead (stTested e pv i L) pv all i c M) ((eP.set 117 all).set 125 (.int .i64 ((c % M : Nat) : Int))) := by
    refine ⟨by rw [i2.len]; simp [D.len], fun t ht => ?_⟩
    by_cases h117 : t = 117
    · subst h117
      rw [get_ne (by decide), get_eq (by rw [D.len]; decide)]
      unfold stRead
      rw [get_ne (by decide), get_ne (by decide), get_ne (by decide), get_ne (by decide), get_ne (by decide), get_ne (by decide), get_ne (by decide), get_ne (by decide), get_eq (by rw [i1.len]; decide)]
    · by_cases h125 : t = 125
      · subst h125
        rw [get_eq (by simp [D.len])]
        unfold stRead
        rw [get_eq (by simp [i1.len])]
      · rw [get_ne h125, get_ne h117]
        have hn : ¬ ((t ∈ dlL ∧ t ≠ 117 ∧ t ≠ 125) ∨ t ∈ ddL) := fun q => by rw [DB_bit.2 q] at ht; simp at ht
        exact i2.eq t (fun q => hn (.inl ⟨q, h117, h125⟩)) (fun q => hn (.inr q))
  obtain ⟨e01, L', q1, e1, q2, q3⟩ := phase_core stB_s k1 k2 k3 (stayS_ok law2_sim (by simp [D.len]) D.closed (D.body _ hj)) ha fun t ht => i2.own t (DB1_bit.1 ht).1
  have hrun : evalCode law2 3000 (.block 7 (.seq (.ops (stOps1 ++ stOps2)) stR)) (stTested e pv i L) HP = some (.normal, e01, L') := by
    rw [st_block_run law2 3000 hR]; exact q1
  have hG := good_outL (good_eval tryzMixed law2_ok 3000 hrun) q2 q3
  -- the state behind the round's own part
  generalize hm : mixD DB1 (stRead (stTested e pv i L) pv all i c M) (eT (dead (c % M)) eP all (c % M)) = e4 at hG
  have heT : (eT (dead (c % M)) eP all (c % M)).length = 169 := by simp [eT, mixD_len, D.len]
  have l4 : e4.length = 169 := by rw [← hm, mixD_len, heT]
  have g4 : ∀ t, t < 169 → e4.getD t V.undef = if DB1.testBit t then (stRead (stTested e pv i L) pv all i c M).getD t V.undef else (eT (dead (c % M)) eP all (c % M)).getD t V.undef := by
    intro t ht
    rw [← hm]; exact mixD_getD (by rw [heT]; exact ht)
  have lt_of : ∀ t ∈ dlL, t < 169 := by decide
  have in4 : ∀ t, t ∈ dlL → t ≠ 117 → t ≠ 125 → e4.getD t V.undef = (stRead (stTested e pv i L) pv all i c M).getD t V.undef := by
    intro t h1 h2 h3
    rw [g4 t (lt_of t h1), if_pos (DB1_bit.2 ⟨h1, h2, h3⟩)]
  have i4 : StInv eP HP.length pv i e4 := by
    refine ⟨l4, fun t h1 h2 => ?_, ?_, ?_, fun t ht => ?_⟩
    · by_cases hlt : t < 169
      · rw [g4 t hlt, if_neg (fun q => h1 (DB1_bit.1 q).1)]
        have n1 : t ≠ 117 := fun c => h1 (by subst c; decide)
        have n2 : t ≠ 125 := fun c => h1 (by subst c; decide)
        unfold eT
        rw [get_ne n2, get_ne n1, mixD_getD (by rw [D.len]; exact hlt), if_neg (fun q => h2 (DD_bit.1 q))]
      · rw [List.getD_eq_getElem?_getD, List.getD_eq_getElem?_getD, List.getElem?_eq_none (by omega), List.getElem?_eq_none (by have := D.len; omega)]
    · rw [in4 2 (by decide) (by decide) (by decide)]; exact i2.pick
    · rw [in4 15 (by decide) (by decide) (by decide)]; exact i2.cnt
    · by_cases n1 : t = 117
      · subst n1
        rw [g4 117 (by decide), if_neg (fun q => (DB1_bit.1 q).2.1 rfl)]
        unfold eT
        rw [get_ne (by decide), get_eq (by rw [mixD_len, D.len]; decide)]
        exact D.rall
      · by_cases n2 : t = 125
        · subst n2
          rw [g4 125 (by decide), if_neg (fun q => (DB1_bit.1 q).2.2 rfl)]
          unfold eT
          rw [get_eq (by simp [mixD_len, D.len])]
          rfl
        · rw [in4 t ht n1 n2]; exact i2.own t ht
  have hP := st_post_run law2 3000 l4 (show i < 1000 by omega) i4.cnt HP
  refine ⟨_, ?_, good_seq (good_eval tryzMixed law2_ok 3000 hT) (good_seq hG (good_eval tryzMixed law2_ok 3000 hP))⟩
  refine ⟨by simp [l4], fun t h1 h2 => ?_, ?_, ?_, fun t ht => ?_⟩
  · have n1 : t ≠ 115 := fun c => h1 (by subst c; decide)
    have n2 : t ≠ 116 := fun c => h1 (by subst c; decide)
    have n3 : t ≠ 15 := fun c => h1 (by subst c; decide)
    rw [get_ne n3, get_ne n2, get_ne n1]; exact i4.eq t h1 h2
  · rw [get_ne (by decide), get_ne (by decide), get_ne (by decide)]; exact i4.pick
  · rw [get_eq (by simp [l4])]
  · exact set_rig rfl (set_rig rfl (set_rig rfl (i4.own t ht)))

/-- The rounds from the i-th on. -/
theorem st_rounds (D : StData g r eP HP π all M dead) (hp : Picks pv L) (hL : L ≤ 60) : ∀ (m i : Nat), i + m = L → ∀ e, StInv eP HP.length pv i e →
    ∃ e', StInv eP HP.length pv L e' ∧ GoodN Tryz.prog stLoop (m + 1) e HP (.exit 6) e' HP
  | 0, i, hi, e, h => by
    have hiL : i = L := by omega
    subst hiL
    have hT := st_T_run law2 3000 h.len h.pick hp.len h.cnt HP
    rw [if_neg (by omega)] at hT
    exact ⟨_, tested_inv D hp h, goodN_last (by simp) (good_seq_out (by simp) (good_eval tryzMixed law2_ok 3000 hT))⟩
  | m + 1, i, hi, e, h => by
    obtain ⟨e1, h1, h2⟩ := st_round D hp (show i < L by omega) hL h
    obtain ⟨e2, h3, h4⟩ := st_rounds D hp hL m (i + 1) (by omega) e1 h1
    exact ⟨e2, h3, goodN_more h2 h4⟩

/-- THE WHOLE RUN OF A CLASS. -/
theorem st_all (D : StData g r eP HP π all M dead) (hp : Picks pv L) : ∃ e' H', GoodE Tryz.prog lit7.body ([modV .u8 4 g, modV .u8 6 r, pv] ++ List.replicate 166 V.undef) [] .ret e' H' ∧ e'.getD 6 V.undef = .bool true := by
  rw [st_body]
  have e0eq : ([modV .u8 4 g, modV .u8 6 r, pv] ++ List.replicate 166 V.undef : Env) = ([modV .u8 4 g, modV .u8 6 r] ++ List.replicate 167 V.undef).set 2 pv := rfl
  rw [e0eq]
  generalize hl0 : ([modV .u8 4 g, modV .u8 6 r] ++ List.replicate 167 V.undef : Env) = l0
  have len0 : l0.length = 169 := by rw [← hl0]; rfl
  have lenA : (eA g r).length = 169 := rfl
  obtain ⟨oA, a1, a2, a3⟩ := chk_of stA_c
  have pA := D.a
  rw [hl0] at pA
  have agA : Agr 4 (l0.set 2 pv) l0 := ⟨by simp, fun t ht => get_ne fun c => by rw [four_bit.2 c] at ht; simp at ht⟩
  -- behind the beginning
  have e1len : (mixD 4 (l0.set 2 pv) (eA g r)).length = 169 := by rw [mixD_len, lenA]
  have e1two : (mixD 4 (l0.set 2 pv) (eA g r)).getD 2 V.undef = pv := by
    rw [mixD_getD (by rw [lenA]; decide), if_pos (four_bit.2 rfl), get_eq (by rw [len0]; decide)]
  have e1eq : ∀ t, t ≠ 2 → t < 169 → (mixD 4 (l0.set 2 pv) (eA g r)).getD t V.undef = (eA g r).getD t V.undef := by
    intro t ht hlt
    rw [mixD_getD (by rw [lenA]; exact hlt), if_neg (fun c => ht (four_bit.1 c))]
  have start : ∀ {r' : ECode} {ex : Ex} {e' : Env} {H' : Heap}, GoodE Tryz.prog r' (mixD 4 (l0.set 2 pv) (eA g r)) [] ex e' H' → GoodE Tryz.prog (app stA r') (l0.set 2 pv) [] ex e' H' :=
    fun hr => good_phases tryzMixed law2_sim law2_ok stA_s a1 a2 a3 pA agA (fun t ht => by
      have := four_bit.1 ht
      subst this
      rw [get_eq (by rw [len0]; decide)]
      exact hp.ren _) hr
  generalize hE1 : mixD 4 (l0.set 2 pv) (eA g r) = e1 at e1len e1two e1eq start
  have hTest := st_test_run law2 3000 e1len e1two hp.len []
  by_cases h60 : 60 < L
  · rw [if_pos h60] at hTest
    exact ⟨_, _, start (good_seq_out (by simp) (good_eval tryzMixed law2_ok 3000 hTest)), get_eq (by simp [e1len])⟩
  · rw [if_neg h60] at hTest
    obtain ⟨oC, c1, c2, c3⟩ := chk_of stC_c
    have agC : Agr DC (((e1.set 20 pv).set 21 (.int .i64 (L : Int))).set 22 (.bool false)) ((eA g r).set 22 (.bool false)) := by
      refine ⟨by simp [e1len, lenA], fun t ht => ?_⟩
      have hn : ¬ (t = 2 ∨ t = 20 ∨ t = 21) := fun c => by rw [DC_bit.2 c] at ht; simp at ht
      by_cases h22 : t = 22
      · subst h22
        rw [get_eq (by simp [e1len]), get_eq (by rw [lenA]; decide)]
      · rw [get_ne h22, get_ne h22, get_ne (fun c => hn (.inr (.inr c))), get_ne (fun c => hn (.inr (.inl c)))]
        by_cases hlt : t < 169
        · exact e1eq t (fun c => hn (.inl c)) hlt
        · rw [List.getD_eq_getElem?_getD, List.getD_eq_getElem?_getD, List.getElem?_eq_none (by omega), List.getElem?_eq_none (by rw [lenA]; omega)]
    generalize hE2 : ((e1.set 20 pv).set 21 (.int .i64 (L : Int))).set 22 (.bool false) = e2 at hTest agC
    have own2 : ∀ (ρ : Nat → Option Nat) t, DC.testBit t = true → V.ren ρ (e2.getD t V.undef) = some (e2.getD t V.undef) := by
      intro ρ t ht
      rw [← hE2]
      rcases DC_bit.1 ht with rfl | rfl | rfl
      · rw [get_ne (by decide), get_ne (by decide), get_ne (by decide), e1two]; exact hp.ren _
      · rw [get_ne (by decide), get_ne (by decide), get_eq (by omega)]; exact hp.ren _
      · rw [get_ne (by decide), get_eq (by simp [e1len])]; rfl
    have two2 : e2.getD 2 V.undef = pv := by rw [← hE2, get_ne (by decide), get_ne (by decide), get_ne (by decide), e1two]
    -- at the loop's head
    have hI : evalCode law2 3000 stI (mixD DC e2 eP) HP = some (.normal, (mixD DC e2 eP).set 15 (.int .i64 0), HP) := by
      unfold stI
      simp only [evalCode]
      rw [ops_cons law2 (v := .int .i64 0) rfl]
      rfl
    have inv0 : StInv eP HP.length pv 0 ((mixD DC e2 eP).set 15 (.int .i64 0)) := by
      have lm : (mixD DC e2 eP).length = 169 := by rw [mixD_len, D.len]
      refine ⟨by simp [lm], fun t h1 h2 => ?_, ?_, get_eq (by rw [lm]; decide), fun t ht => ?_⟩
      · rw [get_ne (fun c => h1 (by subst c; decide))]
        by_cases hlt : t < 169
        · rw [mixD_getD (by rw [D.len]; exact hlt), if_neg]
          intro c
          rcases DC_bit.1 c with rfl | rfl | rfl <;> exact h1 (by decide)
        · rw [List.getD_eq_getElem?_getD, List.getD_eq_getElem?_getD, List.getElem?_eq_none (by omega), List.getElem?_eq_none (by have := D.len; omega)]
      · rw [get_ne (by decide), mixD_getD (by rw [D.len]; decide), if_pos (DC_bit.2 (.inl rfl)), two2]
      · refine set_rig rfl ?_
        have hlt : t < 169 := (show ∀ t ∈ dlL, t < 169 by decide) t ht
        rw [mixD_getD (by rw [D.len]; exact hlt)]
        split
        · rename_i c; exact own2 _ t c
        · exact D.own t ht
    obtain ⟨e3, inv3, hN⟩ := st_rounds D hp (by omega) L 0 (by omega) _ inv0
    have hB : GoodE Tryz.prog (.block 6 (.loop stLoop)) ((mixD DC e2 eP).set 15 (.int .i64 0)) HP .normal e3 HP := good_block (id := 6) (good_loop hN)
    have hRc := stRest_c
    rw [Option.map_eq_some_iff] at hRc
    obtain ⟨oR, r1, r2⟩ := hRc
    have agR : Agr (DL ||| DD) e3 eP := by
      refine ⟨by rw [inv3.len, D.len], fun t ht => ?_⟩
      rw [bit_or, Bool.or_eq_false_iff] at ht
      exact inv3.eq t (fun c => by rw [DL_bit.2 c] at ht; simp at ht) (fun c => by rw [DD_bit.2 c] at ht; simp at ht)
    obtain ⟨e', H', f1, f2⟩ := good_lastD tryzMixed law2_sim law2_ok stRest_s r1 rfl r2 D.rest agR
    refine ⟨e', H', start (good_seq (good_eval tryzMixed law2_ok 3000 hTest) ?_), f2⟩
    exact good_phases tryzMixed law2_sim law2_ok stC_s c1 c2 c3 D.c agC (own2 _) (good_seq (good_seq (good_eval tryzMixed law2_ok 3000 hI) hB) f1)

end
end Go.PE
