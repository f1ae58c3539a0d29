/- GroupReads: the chain of phases, from what the kernel has reckoned of one group to the call. -/
import Derived.Test.YtcmcijlbmkllpaaGreatDoorRdL
namespace Go.PE
open Go.Proofs Go.RowKit
set_option maxRecDepth 100000

/-- What the slots of one's own hold: numbers; those of 'who' what the class's checkpoint has there; n's own is b. -/
structure RdVal (eP : Env) (b : Int) (σ : Nat → V) : Prop where
  ins : ∀ j ∈ rdIn, rigid (σ j)
  test : ∀ j ∈ rdTest, rigid (σ j)
  who : ∀ j ∈ rdWho, j ∉ rdIn → σ j = eP.getD j V.undef
  one : σ 1 = .int .u8 b

theorem rdS_cases {j : Nat} (h : rdS j = true) : j ∈ rdIn ∨ j ∈ rdTest ∨ (j ∈ rdWho ∧ j ∉ rdIn) := by
  simp only [rdS, Bool.or_eq_true, List.contains_iff_mem] at h
  rcases h with h | h | h
  · exact .inl h
  · exact .inr (.inl h)
  · by_cases c : j ∈ rdIn
    · exact .inl c
    · exact .inr (.inr ⟨h, c⟩)

theorem RdVal.pass {eP : Env} {b : Int} {σ : Nat → V} (h : RdVal eP b σ) {π : List Nat} (hp : passB π eP rdWho = true) : ∀ j, rdS j = true → V.ren (π[·]?) (σ j) = some (σ j) := by
  intro j hj
  rcases rdS_cases hj with h1 | h1 | ⟨h1, h2⟩
  · exact h.ins j h1 _
  · exact h.test j h1 _
  · rw [h.who j h1 h2]; exact passB_ok hp h1

theorem rd_lt {j : Nat} (h : rdS j = true) : j < 139 := by
  rcases rdS_cases h with h1 | h1 | ⟨h1, _⟩
  · simp only [rdIn, List.mem_cons, List.not_mem_nil, or_false] at h1; omega
  · simp only [rdTest, List.mem_cons, List.not_mem_nil, or_false] at h1; omega
  · simp only [rdWho, List.mem_cons, List.not_mem_nil, or_false] at h1; omega

theorem tested_getD {e : Env} (hl : e.length = 139) {k b : Int} (n : Nat) : (rdTested e k b).getD n V.undef =
    if n = 61 then .bool (decide (k ≤ b.tmod 12)) else if n = 60 then .int .i64 (b.tmod 12) else if n = 59 then .int .u8 (b.tmod 12) else if n = 58 then .int .u8 b else if n = 57 then .int .i64 k else e.getD n V.undef := by
  simp only [rdTested, getD_set, List.length_set, hl]
  by_cases h1 : n = 61
  · simp [h1]
  · by_cases h2 : n = 60
    · simp [h2]
    · by_cases h3 : n = 59
      · simp [h3]
      · by_cases h4 : n = 58
        · simp [h4]
        · by_cases h5 : n = 57
          · simp [h5]
          · simp [h1, h2, h3, h4, h5]

/-- The loop's test: it goes on, or out; the state behind it. -/
theorem rd_step {eP e : Env} {b : Int} {σ : Nat → V} (hv : RdVal eP b σ) (hl : e.length = 139) {k : Int} (h11 : e.getD 11 V.undef = .int .i64 k) (hb : 0 ≤ b) (X : Ctx) (fuel : Nat) (H : Heap) :
    ∃ σ', RdVal eP b σ' ∧ evalCode X fuel rdCond (over rdS σ e) H = some (if k ≤ b.tmod 12 then .normal else .exit 0, over rdS σ' ((e.set 57 (.int .i64 k)).set 61 (.bool (decide (k ≤ b.tmod 12)))), H) := by
  have hol : (over rdS σ e).length = 139 := by rw [over_len, hl]
  have o11 : (over rdS σ e).getD 11 V.undef = .int .i64 k := by
    rw [over_getD, if_neg (by rintro ⟨c, _⟩; exact absurd c (by decide)), h11]
  have o1 : (over rdS σ e).getD 1 V.undef = .int .u8 b := by
    rw [over_getD, if_pos ⟨by decide, by omega⟩, hv.one]
  have hrun := rd_test X fuel hol o11 o1 hb H
  have hat : ∀ j, rdS j = true → j ≠ 58 → j ≠ 59 → j ≠ 60 → (rdTested (over rdS σ e) k b).getD j V.undef = σ j := by
    intro j hj n1 n2 n3
    have n4 : j ≠ 61 := fun c => by subst c; exact absurd hj (by decide)
    have n5 : j ≠ 57 := fun c => by subst c; exact absurd hj (by decide)
    rw [tested_getD hol, if_neg n4, if_neg n3, if_neg n2, if_neg n1, if_neg n5, over_getD, if_pos ⟨hj, by rw [hl]; exact rd_lt hj⟩]
  refine ⟨fun j => (rdTested (over rdS σ e) k b).getD j V.undef, ⟨?_, ?_, ?_, ?_⟩, ?_⟩
  · intro j hj
    have hs : rdS j = true := by simp [rdS, hj]
    rw [hat j hs (fun c => by subst c; exact absurd hj (by decide)) (fun c => by subst c; exact absurd hj (by decide)) (fun c => by subst c; exact absurd hj (by decide))]
    exact hv.ins j hj
  · intro j hj
    simp only [rdTest, List.mem_cons, List.not_mem_nil, or_false] at hj
    rw [tested_getD hol]
    rcases hj with rfl | rfl | rfl
    · simp only [show ¬ ((58 : Nat) = 61) by decide, show ¬ ((58 : Nat) = 60) by decide, show ¬ ((58 : Nat) = 59) by decide, if_false, if_true]; exact rigid_int _ _
    · simp only [show ¬ ((59 : Nat) = 61) by decide, show ¬ ((59 : Nat) = 60) by decide, if_false, if_true]; exact rigid_int _ _
    · simp only [show ¬ ((60 : Nat) = 61) by decide, if_false, if_true]; exact rigid_int _ _
  · intro j hj hn
    have hs : rdS j = true := by simp [rdS, hj]
    rw [hat j hs (fun c => by subst c; exact absurd hj (by decide)) (fun c => by subst c; exact absurd hj (by decide)) (fun c => by subst c; exact absurd hj (by decide))]
    exact hv.who j hj hn
  · show _ = _
    rw [hat 1 (by decide) (by decide) (by decide) (by decide)]
    exact hv.one
  · rw [hrun]
    have hov := over_of (S := rdS) (e := (e.set 57 (.int .i64 k)).set 61 (.bool (decide (k ≤ b.tmod 12)))) (e0 := rdTested (over rdS σ e) k b) (by simp [rdTested, over_len]) (fun n hn => by
      have m1 : n ≠ 58 := fun c => by subst c; exact absurd hn (by decide)
      have m2 : n ≠ 59 := fun c => by subst c; exact absurd hn (by decide)
      have m3 : n ≠ 60 := fun c => by subst c; exact absurd hn (by decide)
      have hL : ((e.set 57 (.int .i64 k)).set 61 (.bool (decide (k ≤ b.tmod 12)))).getD n V.undef = if n = 61 then .bool (decide (k ≤ b.tmod 12)) else if n = 57 then .int .i64 k else e.getD n V.undef := by
        rw [getD_set, getD_set, List.length_set, hl]
        by_cases n1 : n = 61
        · simp [n1]
        · by_cases n2 : n = 57
          · simp [n2]
          · simp [n1, n2]
      have hO : (over rdS σ e).getD n V.undef = e.getD n V.undef := by
        rw [over_getD, if_neg (fun c => by rw [hn] at c; simp at c)]
      rw [hL, tested_getD hol, hO, if_neg m3, if_neg m2, if_neg m1])
    rw [← hov]

/-- What the kernel has reckoned of one group. -/
structure RdData (G : HeapS) (g : Int) (eP : Nat → Env) (piP : Nat → List Nat) (eB : Env) (hB : Heap) (eK : Nat → Env) (hK : Nat → Heap) (piK : Nat → List Nat) : Prop where
  ok : ∀ f, CallOK Tryz.prog f (heapE G f)
  begun : ∀ args h m, G 7 args h m = none
  pre : ∀ w, w < 5 → phaseB (ctxH litF T2 G 3000 40) 3000 139 (app rdPre .skip) ([.int .u8 g, .int .u8 0, .int .u8 (w : Nat)] ++ List.replicate 136 V.undef) [] .normal (piP w) (eP w) hB = true
  num : ∀ w, w < 5 → numsB (eP w) rdIn = true
  agree : ∀ w, w < 5 → agreeB (rdTest ++ rdWho) eB (eP w) = true
  test : ∀ w, w < 5 → numsB (eP w) rdTest = true
  k1 : phaseB (ctxH litF T2 G 3000 40) 3000 139 rdK eB hB .normal (piK 0) (eK 1) (hK 1) = true
  body : ∀ k, 1 ≤ k → k ≤ 11 → phaseB (ctxH litF T2 G 3000 40) 3000 139 rdBlk (((eK k).set 57 (.int .i64 (k : Nat))).set 61 (.bool true)) (hK k) .normal (piK k) (eK (k + 1)) (hK (k + 1)) = true
  pass : ∀ k w, k ≤ 11 → w < 5 → passB (piK k) (eP w) rdWho = true
  post : ∀ k, 1 ≤ k → k ≤ 12 → lastB (ctxH litF T2 G 3000 40) 3000 139 rdPost (((eK k).set 57 (.int .i64 (k : Nat))).set 61 (.bool false)) (hK k) .ret 6 = true
  len : ∀ k, 1 ≤ k → k ≤ 12 → (eK k).length = 139
  at11 : ∀ k, 1 ≤ k → k ≤ 12 → (eK k).getD 11 V.undef = .int .i64 (k : Nat)

section
variable {G : HeapS} {g : Int} {eP : Nat → Env} {piP : Nat → List Nat} {eB : Env} {hB : Heap} {eK : Nat → Env} {hK : Nat → Heap} {piK : Nat → List Nat}

theorem RdData.all (D : RdData G g eP piP eB hB eK hK piK) (f : FuncId) : CallOK Tryz.prog f (ctxE litF (shortE T2 G) 3000 40 f) := ctxE_ok tryzMixed litF_ok (shortE_ok T2_ok D.ok) 3000 40 f

/-- The loop, from its k-th round on. -/
theorem RdData.rounds (D : RdData G g eP piP eB hB eK hK piK) {w : Nat} (hw : w < 5) {b : Int} (hb : 0 ≤ b) {n : Nat} (hn : b.tmod 12 = n) (hn12 : n < 12) : ∀ (m k : Nat), k + m = n + 1 → 1 ≤ k → ∀ σ, RdVal (eP w) b σ →
    ∃ σ', RdVal (eP w) b σ' ∧ GoodN Tryz.prog (.seq rdCond rdBlk) (m + 1) (over rdS σ (eK k)) (hK k) (.exit 0) (over rdS σ' (((eK (n + 1)).set 57 (.int .i64 ((n + 1 : Nat) : Int))).set 61 (.bool false))) (hK (n + 1))
  | 0, k, hk, h1, σ, hv => by
    have hkn : k = n + 1 := by omega
    subst hkn
    obtain ⟨σ', v1, run⟩ := rd_step hv (D.len (n + 1) h1 (by omega)) (D.at11 (n + 1) h1 (by omega)) hb (ctxE litF (shortE T2 G) 3000 40) 3000 (hK (n + 1))
    have hle : ¬ (((n + 1 : Nat) : Int) ≤ b.tmod 12) := by rw [hn]; omega
    rw [if_neg hle, decide_eq_false hle] at run
    exact ⟨σ', v1, goodN_last (by simp) (good_seq_out (by simp) (good_eval tryzMixed D.all 3000 run))⟩
  | m + 1, k, hk, h1, σ, hv => by
    obtain ⟨σ1, v1, run⟩ := rd_step hv (D.len k h1 (by omega)) (D.at11 k h1 (by omega)) hb (ctxE litF (shortE T2 G) 3000 40) 3000 (hK k)
    have hle : ((k : Nat) : Int) ≤ b.tmod 12 := by rw [hn]; omega
    rw [if_pos hle, decide_eq_true hle] at run
    obtain ⟨σ', v2, hN⟩ := RdData.rounds D hw hb hn hn12 m (k + 1) (by omega) (by omega) σ1 v1
    have hB1 := good_phase (S := rdS) tryzMixed D.all rdBlk_ok (D.body k h1 (by omega)) (σ := σ1) (σ2 := σ1) (v1.pass (D.pass k w (by omega) hw))
    exact ⟨σ', v2, goodN_more (good_seq (good_eval tryzMixed D.all 3000 run) hB1) hN⟩

/-- Behind the beginning: to the end, with 'true'. -/
theorem RdData.rest (D : RdData G g eP piP eB hB eK hK piK) {w : Nat} (hw : w < 5) {b : Int} (hb : 0 ≤ b) {n : Nat} (hn : b.tmod 12 = n) (hn12 : n < 12) {σ : Nat → V} (hv : RdVal (eP w) b σ) :
    ∃ e' H', GoodE Tryz.prog (.seq (.seq rdK (.block 0 (.loop (.seq rdCond rdBlk)))) rdPost) (over rdS σ eB) hB .ret e' H' ∧ e'.getD 6 V.undef = .bool true := by
  have hK1 := good_phase (S := rdS) tryzMixed D.all rdK_ok D.k1 (σ := σ) (σ2 := σ) (hv.pass (D.pass 0 w (by omega) hw))
  obtain ⟨σ', v1, hN⟩ := D.rounds hw hb hn hn12 n 1 (by omega) (by omega) σ hv
  have hL := good_block (id := 0) (good_loop hN)
  have hL' : GoodE Tryz.prog (.block 0 (.loop (.seq rdCond rdBlk))) (over rdS σ (eK 1)) (hK 1) .normal (over rdS σ' (((eK (n + 1)).set 57 (.int .i64 ((n + 1 : Nat) : Int))).set 61 (.bool false))) (hK (n + 1)) := hL
  obtain ⟨e', H', q1, q2⟩ := good_last (S := rdS) tryzMixed D.all rdPost_ok (by decide) (D.post (n + 1) (by omega) (by omega)) σ'
  exact ⟨e', H', good_seq (good_seq hK1 hL') q1, q2⟩

def rdMo (n : Nat) : Option (IntKind × Int) := if n = 0 then some (.u8, 4) else if n = 16 then some (.u8, 4) else if n = 1 then some (.u8, 1) else if n = 2 then some (.u8, 5) else if n = 31 then some (.u8, 5) else none
def rdMoB (n : Nat) : Option (IntKind × Int) := if n = 0 then some (.u8, 4) else if n = 8 then some (.u8, 4) else none

end
end Go.PE
