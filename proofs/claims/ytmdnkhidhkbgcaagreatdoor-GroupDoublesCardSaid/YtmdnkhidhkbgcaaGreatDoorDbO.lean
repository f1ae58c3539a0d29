/- GroupDoubles: write after write, and the whole call, from what must be known of a group. -/
import Derived.Test.YtmdnkhidhkbgcaaGreatDoorDbN
namespace Go.PE
open Go.Proofs Go.RowKit
set_option maxRecDepth 100000
def AskOK (c : GP) (i : Nat) : Prop := ∀ (S : Nat → Option ByteArray) (pv : V) (all told : List (List V)) (a k j : Nat) (e : Env), V.firm pv = true → Rows all → Rows told → Rdy pv all a k i e → e.getD 12 V.undef = iN j →
  ∃ e', GoodE Tryz.prog S dbK e (std (fx c (6 + 6 * i)) (bN c.g) [] all told 1) .normal e' (std (fx c (7 + 6 * i)) (bN c.g) [row c (main c (7 + 6 * i)), row c (main c (8 + 6 * i))] all told 1) ∧ Rdy pv all a k i e' ∧ e'.getD 12 V.undef = iN j
def FinOK (c : GP) (k : Nat) : Prop := ∀ (S : Nat → Option ByteArray) (pv : V) (all told : List (List V)) (a i : Nat) (e : Env), Rdy pv all a k i e → ∃ e' H', GoodE Tryz.prog S dbE e (std (fx c (12 + 6 * k)) (bN c.g) [] all told 1) .ret e' H' ∧ e'.getD 6 V.undef = .bool true
section
variable {S : Nat → Option ByteArray} {c : GP} {pv : V} {n : Nat}
theorem phase (net : Net c) (hpk : Picks n pv) {p0 pe : Nat} (hpe : pe ≤ 66) (h0e : p0 ≤ pe) (hend : upto c pe = pe) (hmid : ∀ p, p0 ≤ p → p < pe → upto c p ≠ p) (hw : pe - p0 ≤ 12) {a k i : Nat} {l all : List MI} {told : List (List V)} {e e1 : Env} {H : Heap}
    (hk : GoodE Tryz.prog S dbK e H .normal e1 (std (fx c p0) (bN c.g) (rws c l) (rws c all) told 1)) (_ : Rdy pv (rws c all) a k i e1) (hs : Seq c p0 (upto c p0) 0 l) (hall : ∀ z ∈ all, z ∈ ys c ∧ rho c z ≤ p0) (ht : Rows told) (hup : upto c p0 ≤ 66) (ha : a ≤ n)
    (hal : all.length < 70000) (htl : told.length < 70000) (hik : i ≤ k) (hkk : k ≤ 9) (h11 : e.getD 11 V.undef = wN i) (h10 : e.getD 10 V.undef = wN k) (hel : e.length = 178) (hsame : ∀ e0 : Env, SameX 177 e0 e → ∃ e01, GoodE Tryz.prog S dbK e0 H .normal e01 (std (fx c p0) (bN c.g) (rws c l) (rws c all) told 1) ∧ Rdy pv (rws c all) a k i e01) :
    ∃ e' a' j' all' told', GoodE Tryz.prog S dbO e H .normal e' (std (fx c pe) (bN c.g) (rws c []) (rws c all') told' 1) ∧ Rdy pv (rws c all') a' k (i + 1) e' ∧ e'.getD 12 V.undef = iN j' ∧ (∀ z ∈ all', z ∈ ys c ∧ rho c z ≤ pe) ∧ Rows told' ∧ a' ≤ n ∧ all'.length ≤ all.length + 212 ∧ told'.length ≤ told.length + 212 := by
  have hle := hpk.le
  obtain ⟨e2, _, r1, rfl, r2, r3⟩ := (c37_run (X := lawD 39) (H := H) hel h11 h10).code (fuel := 3000)
  obtain ⟨e3, g3, hr3⟩ := hsame e2 r2
  have z1 : evalCode (lawD 39) 3000 (.ops [o 12 (.move (.c (.int .i64 0)))]) e3 (std (fx c p0) (bN c.g) (rws c l) (rws c all) told 1) = some (.normal, e3.set 12 (.int .i64 0), std (fx c p0) (bN c.g) (rws c l) (rws c all) told 1) := rfl
  have hr4 : Rdy pv (rws c all) a k i (e3.set 12 (.int .i64 0)) := by
    have g' : ∀ t, t ≠ 12 → (e3.set 12 (.int .i64 0)).getD t V.undef = e3.getD t V.undef := fun t ht => getD_put_ne ht
    exact ⟨by rw [List.length_set]; exact hr3.len, (g' 2 (by decide)).trans hr3.h2, (g' 7 (by decide)).trans hr3.h7, (g' 8 (by decide)).trans hr3.h8, (g' 9 (by decide)).trans hr3.h9, (g' 10 (by decide)).trans hr3.h10, (g' 11 (by decide)).trans hr3.h11⟩
  have h124 : (e3.set 12 (.int .i64 0)).getD 12 V.undef = iN 0 := getD_put (by rw [hr3.len]; decide)
  obtain ⟨N, e5, a5, j5, all5, told5, s1, s2, s3, s4, s5, s6, s7, s8⟩ := inner (S := S) net hpk hpe hend hmid ((pe - p0) + 0 + 2 * (n - a)) p0 0 a k i 0 l all told _ (Nat.le_refl _) (by omega) (Nat.le_refl _) h0e hs hall ht hr4 h124 hup ha (by omega) (by omega)
  have gl : GoodE Tryz.prog S (.block 2 (.loop dbI)) (e3.set 12 (.int .i64 0)) (std (fx c p0) (bN c.g) (rws c l) (rws c all) told 1) .normal e5 (std (fx c pe) (bN c.g) (rws c []) (rws c all5) told5 1) := good_block (id := 2) (good_loop s1)
  obtain ⟨e6, _, u1, rfl, u2, u3⟩ := (c121_run (X := lawD 39) (H := std (fx c pe) (bN c.g) (rws c []) (rws c all5) told5 1) (m := 0) s2.len s2.h7 (bv := .nils) (load_one (std_w (net.fxok pe hpe).len) (Nat.zero_le _) rfl (by decide)) rfl).code (fuel := 3000)
  have gC : GoodE Tryz.prog S dbC e5 (std (fx c pe) (bN c.g) (rws c []) (rws c all5) told5 1) .normal e6 (std (fx c pe) (bN c.g) (rws c []) (rws c all5) told5 1) := good_seq (good_eval tryzMixed (lawD_ok 39) 3000 u1) (good_cond u3 (good_eval tryzMixed (lawD_ok 39) 3000 rfl))
  have hr6 := s2.same u2
  obtain ⟨e7, _, v1, rfl, v2, v3⟩ := (incW_run (X := lawD 39) (H := std (fx c pe) (bN c.g) (rws c []) (rws c all5) told5 1) hr6.len (show i < 99999 by omega) hr6.h11).code (fuel := 3000)
  refine ⟨e7, a5, j5, all5, told5, ?_, ⟨v2.1, (v2.2 2 (by decide) (by decide)).trans hr6.h2, (v2.2 7 (by decide) (by decide)).trans hr6.h7, (v2.2 8 (by decide) (by decide)).trans hr6.h8, (v2.2 9 (by decide) (by decide)).trans hr6.h9, (v2.2 10 (by decide) (by decide)).trans hr6.h10, v3⟩,
    (v2.2 12 (by decide) (by decide)).trans ((u2.2 12 (by decide) (by decide)).trans s3), s4, s5, s6, by omega, by omega⟩
  refine good_seq (good_seq (good_eval tryzMixed (lawD_ok 39) 3000 r1) (good_cond r3 ?_)) (good_seq (good_block (id := 1) (ex := .normal) (good_seq g3 (good_seq (good_seq (good_eval tryzMixed (lawD_ok 39) 3000 z1) gl) gC))) (good_eval tryzMixed (lawD_ok 39) 3000 v1))
  rw [if_pos (decide_eq_true hik)]
  exact good_eval tryzMixed (lawD_ok 39) 3000 rfl
theorem outer (net : Net c) (hpk : Picks n pv) {k : Nat} (hk : k ≤ 9) (ask : ∀ i, 1 ≤ i → i ≤ 9 → AskOK c i) : ∀ (m i a j : Nat) (all : List MI) (told : List (List V)) (e : Env), i + m = k + 1 → 1 ≤ i → (∀ z ∈ all, z ∈ ys c ∧ rho c z ≤ 6 + 6 * i) → Rows told → Rdy pv (rws c all) a k i e → e.getD 12 V.undef = iN j → a ≤ n →
    all.length ≤ 300 * i → told.length ≤ 300 * i →
    ∃ N e' a' all' told', GoodN Tryz.prog S dbO N e (std (fx c (6 + 6 * i)) (bN c.g) (rws c []) (rws c all) told 1) (.exit 0) e' (std (fx c (12 + 6 * k)) (bN c.g) (rws c []) (rws c all') told' 1) ∧ Rdy pv (rws c all') a' k (k + 1) e' := by
  intro m
  induction m with
  | zero =>
    intro i a j all told e hi _ hall ht hr h12 ha hal htl
    have : i = k + 1 := by omega
    subst this
    obtain ⟨e2, _, r1, rfl, r2, r3⟩ := (c37_run (X := lawD 39) (H := std (fx c (6 + 6 * (k + 1))) (bN c.g) (rws c []) (rws c all) told 1) hr.len hr.h11 hr.h10).code (fuel := 3000)
    rw [show 12 + 6 * k = 6 + 6 * (k + 1) by omega]
    refine ⟨1, e2, a, all, told, goodN_last (by simp) (good_seq_out (by simp) (good_seq (good_eval tryzMixed (lawD_ok 39) 3000 r1) (good_cond r3 ?_))), hr.same r2⟩
    rw [if_neg (by simp)]
    exact good_eval tryzMixed (lawD_ok 39) 3000 rfl
  | succ m ih =>
    intro i a j all told e hi h1 hall ht hr h12 ha hal htl
    have hi9 : i ≤ 9 := by omega
    obtain ⟨k1, k2, k3⟩ := net.asks i h1 hi9
    have har : Rows (rws c all) := rws_rows net fun z hz => (hall z hz).1
    have hseq : Seq c (7 + 6 * i) (upto c (7 + 6 * i)) 0 [main c (7 + 6 * i), main c (8 + 6 * i)] := by
      rw [k1]
      have h0 : Seq c (9 + 6 * i) (9 + 6 * i) 0 [] := .nil _
      have h8 : Seq c (8 + 6 * i) (9 + 6 * i) 0 [main c (8 + 6 * i)] := .main (by omega) k3 (by rw [show 8 + 6 * i + 1 = 9 + 6 * i by omega]; exact h0)
      exact .main (by omega) k2 (by rw [show 7 + 6 * i + 1 = 8 + 6 * i by omega]; exact h8)
    have hk0 : ∀ e0 : Env, SameX 177 e0 e → ∃ e01, GoodE Tryz.prog S dbK e0 (std (fx c (6 + 6 * i)) (bN c.g) (rws c []) (rws c all) told 1) .normal e01 (std (fx c (7 + 6 * i)) (bN c.g) (rws c [main c (7 + 6 * i), main c (8 + 6 * i)]) (rws c all) told 1) ∧ Rdy pv (rws c all) a k i e01 := fun e0 h0 => by
      obtain ⟨e01, q1, q2, _⟩ := ask i h1 hi9 S pv (rws c all) told a k j e0 hpk.firm har ht (hr.same h0) ((h0.2 12 (by decide) (by decide)).trans h12)
      exact ⟨e01, q1, q2⟩
    obtain ⟨e01, q1, q2⟩ := hk0 e (SameX.refl hr.len)
    obtain ⟨e', a', j', all', told', p1, p2, p3, p4, p5, p6, p7, p8⟩ := phase (S := S) net hpk (p0 := 7 + 6 * i) (pe := 12 + 6 * i) (by omega) (by omega) ((net.stop (12 + 6 * i) (by omega)).2 ⟨by omega, by omega⟩) (fun p h1 h2 h => by have := (net.stop p (by omega)).1 h; omega) (by omega)
      q1 q2 hseq (fun z hz => ⟨(hall z hz).1, by have := (hall z hz).2; omega⟩) ht (by omega) ha (by omega) (by omega) (by omega) hk hr.h11 hr.h10 hr.len hk0
    obtain ⟨N, e5, a5, all5, told5, s1, s2⟩ := ih (i + 1) a' j' all' told' e' (by omega) (by omega) (fun z hz => ⟨(p4 z hz).1, by have := (p4 z hz).2; omega⟩) p5 p2 p3 p6 (by omega) (by omega)
    rw [show 6 + 6 * (i + 1) = 12 + 6 * i by omega] at s1
    exact ⟨N + 1, e5, a5, all5, told5, goodN_more p1 s1, s2⟩
theorem all_rounds (net : Net c) (hpk : Picks n pv) {k : Nat} (_ : 1 ≤ k) (hk : k ≤ 9) (ask : ∀ i, 1 ≤ i → i ≤ 9 → AskOK c i) (fin : FinOK c k) {e : Env} (hr : Rdy pv [] 0 k 0 e) :
    ∃ e5 H5 e' H', GoodE Tryz.prog S (.block 0 (.loop dbO)) e (std (fx c 0) (bN c.g) (rws c [main c 0, main c 1, main c 2, main c 3]) [] [] 1) .normal e5 H5 ∧ GoodE Tryz.prog S dbE e5 H5 .ret e' H' ∧ e'.getD 6 V.undef = .bool true := by
  obtain ⟨b1, b2⟩ := net.begs
  have hseq : Seq c 0 (upto c 0) 0 [main c 0, main c 1, main c 2, main c 3] := by
    rw [b1]
    exact .main (by decide) (b2 0 (by decide)) (.main (by decide) (b2 1 (by decide)) (.main (by decide) (b2 2 (by decide)) (.main (by decide) (b2 3 (by decide)) (.nil 4))))
  have hk0 : ∀ e0 : Env, SameX 177 e0 e → ∃ e01, GoodE Tryz.prog S dbK e0 (std (fx c 0) (bN c.g) (rws c [main c 0, main c 1, main c 2, main c 3]) (rws c []) [] 1) .normal e01 (std (fx c 0) (bN c.g) (rws c [main c 0, main c 1, main c 2, main c 3]) (rws c []) [] 1) ∧ Rdy pv (rws c []) 0 k 0 e01 := fun e0 h0 => by
    have hr0 := hr.same h0
    obtain ⟨e2, _, r1, rfl, r2, r3⟩ := (c42_run (X := lawD 39) (H := std (fx c 0) (bN c.g) (rws c [main c 0, main c 1, main c 2, main c 3]) (rws c []) [] 1) hr0.len hr0.h11).code (fuel := 3000)
    exact ⟨e2, good_seq (good_eval tryzMixed (lawD_ok 39) 3000 r1) (good_cond r3 (good_eval tryzMixed (lawD_ok 39) 3000 rfl)), hr0.same r2⟩
  obtain ⟨e01, q1, q2⟩ := hk0 e (SameX.refl hr.len)
  obtain ⟨e', a', j', all', told', p1, p2, p3, p4, p5, p6, p7, p8⟩ := phase (S := S) net hpk (p0 := 0) (pe := 12) (by decide) (by decide) ((net.stop 12 (by decide)).2 ⟨by decide, by decide⟩) (fun p _ h2 h => by have := (net.stop p (by omega)).1 h; omega) (by decide)
    q1 q2 hseq (fun z hz => by simp at hz) Rows.nil (by omega) (Nat.zero_le _) (by simp) (by simp) (Nat.zero_le _) hk hr.h11 hr.h10 hr.len hk0
  obtain ⟨N, e5, a5, all5, told5, s1, s2⟩ := outer (S := S) net hpk hk ask k 1 a' j' all' told' e' (by omega) (Nat.le_refl _) p4 p5 p2 p3 p6 (by simp at p7; omega) (by simp at p8; omega)
  obtain ⟨e6, H6, t1, t2⟩ := fin S pv (rws c all5) told5 a5 (k + 1) e5 s2
  exact ⟨e5, _, e6, H6, good_block (id := 0) (ex := .exit 0) (good_loop (goodN_more p1 s1)), t1, t2⟩
end
end Go.PE
