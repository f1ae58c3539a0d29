/- GroupDoubles: the rows of messages that lie there, told by what is on its way and what is idle; the loops by induction. -/
import Derived.Test.YtmdnkhidhkbgcaaGreatDoorDbM
namespace Go.PE
open Go.Proofs Go.RowKit
set_option maxRecDepth 100000
def ys (c : GP) : List MI :=
  c.oth.map (fun d => (0, d, 0)) ++ (c.oth.map (fun d => (1, d, 0)) ++ ([c.d1, c.d2].flatMap fun d => (List.range' 1 10).map (fun s => (1, d, s)) ++ ((2, d, 0) :: ((List.range 10).map (fun n => (3, d, n)) ++ ((List.range' 1 9).map (fun n => (4, d, n)) ++ (List.range' 1 9).map (fun n => (5, d, n)))))) ++ (List.range' 1 9).map fun n => (6, 0, n))
def toN (c : GP) (y : MI) : Nat := bif Nat.beq y.1 6 then 21 else 10 + toI c y
def ix (c : GP) (d : Nat) : Nat := (c.oth.takeWhile fun x => !Nat.beq x d).length
def rho (c : GP) (y : MI) : Nat :=
  bif Nat.beq y.1 0 then ix c y.2.1 + 1 else
  bif Nat.beq y.1 1 then (bif Nat.beq y.2.2 0 then ix c y.2.1 + 5 else bif Nat.beq y.2.2 1 then 11 else 12) else
  bif Nat.beq y.1 2 then (bif Nat.beq y.2.1 c.d1 then 9 else 10) else
  bif Nat.beq y.1 3 then (bif Nat.beq y.2.2 0 && Nat.beq y.2.1 c.d1 then 11 else 12) else
  bif Nat.beq y.1 4 then 6 + 6 * y.2.2 + (bif Nat.beq y.2.1 c.d1 then 2 else 3) else
  bif Nat.beq y.1 5 then 6 + 6 * y.2.2 + (bif Nat.beq y.2.1 c.d1 then 4 else 5) else 12 + 6 * y.2.2
def rk (y : MI) : Nat := bif Nat.beq (y.1 % 2) 0 then 1 else 0
inductive Seq (c : GP) : Nat → Nat → Nat → List MI → Prop
  | nil (p : Nat) : Seq c p p 0 []
  | main {p e w : Nat} {l : List MI} : p < e → main c p ∈ ys c → Seq c (p + 1) e w l → Seq c p e w (main c p :: l)
  | idle {p e w : Nat} {l : List MI} {y : MI} : y ∈ ys c → rho c y ≤ p → Seq c p e w l → Seq c p e (w + 1 + rk y) (y :: l)
section
variable {c : GP} {p e w : Nat} {l : List MI}
theorem Seq.le (h : Seq c p e w l) : p ≤ e := by
  induction h with
  | nil => exact Nat.le_refl _
  | main h _ _ ih => omega
  | idle _ _ _ ih => exact ih
theorem Seq.mem (h : Seq c p e w l) : ∀ y ∈ l, y ∈ ys c := by
  induction h with
  | nil => intro y h; simp at h
  | main _ h1 _ ih =>
    intro y h
    rcases List.mem_cons.1 h with rfl | h
    · exact h1
    · exact ih y h
  | idle h1 _ _ ih =>
    intro y h
    rcases List.mem_cons.1 h with rfl | h
    · exact h1
    · exact ih y h
theorem Seq.len (h : Seq c p e w l) : l.length ≤ w + (e - p) := by
  induction h with
  | nil => simp
  | main h _ hs ih => have := hs.le; simp only [List.length_cons]; omega
  | idle _ _ _ ih => simp only [List.length_cons]; omega
theorem Seq.put {z : MI} (h : Seq c p e w l) (hz : z ∈ ys c) (hr : rho c z ≤ e) : Seq c p e (w + 1 + rk z) (l ++ [z]) := by
  induction h with
  | nil p => exact Seq.idle hz hr (.nil p)
  | main h1 h2 _ ih => exact Seq.main h1 h2 (ih hr)
  | @idle p e w l y h1 h2 _ ih =>
    have := Seq.idle h1 h2 (ih hr)
    rw [show w + 1 + rk y + 1 + rk z = w + 1 + rk z + 1 + rk y by omega]
    exact this
theorem Seq.more {e2 : Nat} (he : e ≤ e2) (hm : ∀ q, e ≤ q → q < e2 → Go.PE.main c q ∈ ys c) (h : Seq c p e w l) : Seq c p e2 w (l ++ (List.range' e (e2 - e)).map (Go.PE.main c)) := by
  have base : ∀ (k e : Nat), (∀ q, e ≤ q → q < e + k → Go.PE.main c q ∈ ys c) → Seq c e (e + k) 0 ((List.range' e k).map (Go.PE.main c)) := by
    intro k
    induction k with
    | zero => intro e _; exact .nil e
    | succ k ih =>
      intro e hm
      rw [List.range'_succ, List.map_cons]
      have := ih (e + 1) fun q h1 h2 => hm q (by omega) (by omega)
      rw [show e + 1 + k = e + (k + 1) by omega] at this
      exact .main (by omega) (hm e (Nat.le_refl _) (by omega)) this
  induction h with
  | nil p =>
    have := base (e2 - p) p fun q h1 h2 => hm q h1 (by omega)
    rw [show p + (e2 - p) = e2 by omega] at this
    exact this
  | main h1 h2 _ ih => exact Seq.main (by omega) h2 (ih he hm)
  | idle h1 h2 _ ih => exact Seq.idle h1 h2 (ih he hm)
end
def args0 (c : GP) (y : MI) : List V := [.ptr (11 + (toN c y - 10)) 0 0 352, .ptr 0 0 0 7, .agg (row c y)]
structure Net (c : GP) : Prop where
  fxok : ∀ p, p ≤ 66 → FxOK (fx c p)
  rows : ∀ y ∈ ys c, MsgOK (row c y) ∧ (row c y)[2]? = some (bN (toN c y)) ∧ (toN c y < 20 → 10 ≤ toN c y ∧ toN c y < 15)
  idle : ∀ p, p ≤ 66 → ∀ y ∈ ys c, rho c y ≤ p → toN c y < 20 → ∀ H : Heap, H.length = 28 → (∀ b, b < 22 → H[b]? = (fx c p)[b]?) → Stepped (lawD 39) 13 (args0 c y) H (fx c p) ((back c p y).map (row c))
  main : ∀ p, p < 66 → p < upto c p → toN c (main c p) < 20 → ∀ H : Heap, H.length = 28 → (∀ b, b < 22 → H[b]? = (fx c p)[b]?) → Stepped (lawD 39) 13 (args0 c (main c p)) H (fx c (p + 1)) ((news c p).map (row c))
  told : ∀ p, p < 66 → p < upto c p → 20 ≤ toN c (Go.PE.main c p) → fx c (p + 1) = fx c p ∧ news c p = []
  mains : ∀ p, p < 66 → p < upto c p → Go.PE.main c p ∈ ys c ∧ rho c (Go.PE.main c p) ≤ p + 1 ∧ upto c p ≤ upto c (p + 1) ∧ upto c (p + 1) ≤ 66
  ons : ∀ p, p < 66 → p < upto c p → ∀ q, upto c p ≤ q → q < upto c (p + 1) → Go.PE.main c q ∈ ys c
  backs : ∀ p, p ≤ 66 → ∀ y ∈ ys c, rho c y ≤ p → (back c p y = [] ∨ ∃ z, back c p y = [z] ∧ z ∈ ys c ∧ rho c z ≤ upto c p ∧ rk z = 0 ∧ rk y = 1 ∧ toN c y < 20)
  stop : ∀ p, p ≤ 66 → (upto c p = p ↔ 12 ≤ p ∧ p % 6 = 0)
  asks : ∀ i, 1 ≤ i → i ≤ 9 → upto c (7 + 6 * i) = 9 + 6 * i ∧ Go.PE.main c (7 + 6 * i) ∈ ys c ∧ Go.PE.main c (8 + 6 * i) ∈ ys c
  begs : upto c 0 = 4 ∧ ∀ q, q < 4 → Go.PE.main c q ∈ ys c
section
variable {S : Nat → Option ByteArray} {c : GP} {pv : V} {n : Nat}
structure Picks (n : Nat) (pv : V) : Prop where
  len : lenK false pv = some n
  le : n ≤ 100
  firm : V.firm pv = true
  el : ∀ a : Nat, a < n → ∃ q, q < 256 ∧ indexAddrSlE 1 pv (iN a) = some (.pptr [bN q])
def rws (c : GP) (l : List MI) : List (List V) := l.map (row c)
theorem rws_rows (net : Net c) {l : List MI} (h : ∀ y ∈ l, y ∈ ys c) : Rows (rws c l) := by
  intro x hx
  obtain ⟨y, hy, rfl⟩ := List.mem_map.1 hx
  exact (net.rows y (h y hy)).1
theorem rws_app {a b : List MI} : rws c (a ++ b) = rws c a ++ rws c b := List.map_append
theorem rws_len {a : List MI} : (rws c a).length = a.length := List.length_map ..
theorem rws_nil {a : List MI} : rws c a = [] ↔ a = [] := List.map_eq_nil_iff
theorem take_round (net : Net c) (hpk : Picks n pv) {p w a k i j : Nat} {y : MI} {l all : List MI} {told : List (List V)} {e : Env} (hp : p ≤ 66) (hs : Seq c p (upto c p) w (y :: l)) (hall : ∀ z ∈ all, z ∈ ys c ∧ rho c z ≤ p) (ht : Rows told)
    (hr : Rdy pv (rws c all) a k i e) (h12 : e.getD 12 V.undef = iN j) (hw : w ≤ 1000) (hal : all.length < 80000) (htl : told.length < 80000) (hup : upto c p ≤ 66) :
    ∃ p' w' l' told' e', (∀ {Z : ECode} {e2 : Env} {H2 : Heap}, GoodE Tryz.prog S Z e' (std (fx c p') (bN c.g) (rws c l') (rws c (all ++ [y])) told' 1) .normal e2 H2 → GoodE Tryz.prog S (.seq (.ops oA) (.seq (.ops oT) Z)) e (std (fx c p) (bN c.g) (rws c (y :: l)) (rws c all) told 1) .normal e2 H2) ∧
      Rdy pv (rws c (all ++ [y])) a k i e' ∧ e'.getD 12 V.undef = iN j ∧ Seq c p' (upto c p') w' l' ∧ (∀ z ∈ all ++ [y], z ∈ ys c ∧ rho c z ≤ p') ∧ Rows told' ∧ told'.length ≤ told.length + 1 ∧ p ≤ p' ∧ p' ≤ upto c p ∧ upto c p' ≤ 66 ∧
      ((p' = p + 1 ∧ w' = w) ∨ (p' = p ∧ w' + 1 ≤ w)) := by
  have hmem := hs.mem
  have hy := hmem y (List.mem_cons_self ..)
  have hlr : Rows (rws c (y :: l)) := rws_rows net hmem
  have har : Rows (rws c all) := rws_rows net fun z hz => (hall z hz).1
  have hary : Rows (rws c all ++ [row c y]) := har.app (.one (net.rows y hy).1)
  have hfx := net.fxok p hp
  have hsl := hs.len
  simp only [List.length_cons] at hsl
  obtain ⟨e1, gA, rA, r12⟩ := good_A (S := S) (x := row c y) (bag := rws c l) (pads := 1) hfx (gv := bN c.g) rfl hlr har ht hpk.firm hr h12 (by simp only [rws, List.length_map]; omega) (if rws c l = [] then 1 else 0)
  have happ : rws c (all ++ [y]) = rws c all ++ [row c y] := rws_app
  obtain ⟨_, hto, hd⟩ := net.rows y hy
  generalize hE : upto c p = E at hs
  rcases hs with _ | ⟨hlt, hin, hrest⟩ | ⟨hin, hrho, hrest⟩
  · -- on its way
    subst hE
    have hp66 : p < 66 := by omega
    obtain ⟨m1, m2, m3, m4⟩ := net.mains p hp66 hlt
    by_cases hc : toN c (Go.PE.main c p) < 20
    · obtain ⟨d1, d2⟩ := hd hc
      obtain ⟨e2, gT, rT, t12⟩ := good_T (S := S) (zs := rws c (news c p)) hfx (net.fxok (p + 1) (by omega)) (gv := bN c.g) rfl hlr hary ht hpk.firm rA r12 hto d1 d2 (by
        simp only [rws, news, List.length_map, List.length_range']
        omega) (net.main p hp66 hlt hc)
      refine ⟨p + 1, w, l ++ news c p, told, e2, ?_, by rw [happ]; exact rT, t12, hrest.more m3 (net.ons p hp66 hlt), fun z hz => ?_, ht, by omega, by omega, by omega, m4, .inl ⟨rfl, rfl⟩⟩
      · intro Z e3 H3 k; rw [rws_app, happ] at k; exact good_seq gA (good_seq gT k)
      · rcases List.mem_append.1 hz with hz | hz
        · exact ⟨(hall z hz).1, by have := (hall z hz).2; omega⟩
        · simp only [List.mem_singleton] at hz; subst hz; exact ⟨m1, m2⟩
    · obtain ⟨q1, q2⟩ := net.told p hp66 hlt (by omega)
      obtain ⟨e2, gT, rT, t12⟩ := good_Tc (S := S) hfx (gv := bN c.g) rfl hlr hary ht hpk.firm rA r12 hto (by omega) (by simp only [List.length_map]; omega) (by omega)
      have hm := hrest.more m3 (net.ons p hp66 hlt)
      have hnil : (List.range' (upto c p) (upto c (p + 1) - upto c p)).map (Go.PE.main c) = [] := q2
      rw [hnil, List.append_nil] at hm
      refine ⟨p + 1, w, l, told ++ [row c (Go.PE.main c p)], e2, ?_, by rw [happ]; exact rT, t12, hm, fun z hz => ?_, ht.app (.one (net.rows _ hy).1), by simp, by omega, by omega, m4, .inl ⟨rfl, rfl⟩⟩
      · intro Z e3 H3 k; rw [q1, happ] at k; exact good_seq gA (good_seq gT k)
      · rcases List.mem_append.1 hz with hz | hz
        · exact ⟨(hall z hz).1, by have := (hall z hz).2; omega⟩
        · simp only [List.mem_singleton] at hz; subst hz; exact ⟨m1, m2⟩
  · -- idle
    rename_i w0
    subst hE
    have hall' : ∀ z ∈ all ++ [y], z ∈ ys c ∧ rho c z ≤ p := fun z hz => by
      rcases List.mem_append.1 hz with hz | hz
      · exact hall z hz
      · simp only [List.mem_singleton] at hz; subst hz; exact ⟨hy, hrho⟩
    by_cases hc : toN c y < 20
    · obtain ⟨d1, d2⟩ := hd hc
      have hb := net.backs p hp y hy hrho
      obtain ⟨e2, gT, rT, t12⟩ := good_T (S := S) (zs := rws c (back c p y)) hfx hfx (gv := bN c.g) rfl hlr hary ht hpk.firm rA r12 hto d1 d2 (by
        simp only [rws, List.length_map]
        rcases hb with h | ⟨z, h, _⟩ <;> rw [h] <;> simp <;> omega) (net.idle p hp y hy hrho hc)
      rcases hb with h | ⟨z, h, z1, z2, z3, z4, _⟩
      · refine ⟨p, w0, l ++ back c p y, told, e2, ?_, by rw [happ]; exact rT, t12, by rw [h, List.append_nil]; exact hrest, hall', ht, by omega, Nat.le_refl _, hrest.le, hup, .inr ⟨rfl, by omega⟩⟩
        intro Z e3 H3 k; rw [rws_app, happ] at k; exact good_seq gA (good_seq gT k)
      · refine ⟨p, w0 + 1 + rk z, l ++ back c p y, told, e2, ?_, by rw [happ]; exact rT, t12, by rw [h]; exact hrest.put z1 z2, hall', ht, by omega, Nat.le_refl _, hrest.le, hup, .inr ⟨rfl, by omega⟩⟩
        intro Z e3 H3 k; rw [rws_app, happ] at k; exact good_seq gA (good_seq gT k)
    · obtain ⟨e2, gT, rT, t12⟩ := good_Tc (S := S) hfx (gv := bN c.g) rfl hlr hary ht hpk.firm rA r12 hto (by omega) (by simp only [List.length_map]; omega) (by omega)
      refine ⟨p, w0, l, told ++ [row c y], e2, ?_, by rw [happ]; exact rT, t12, hrest, hall', ht.app (.one (net.rows _ hy).1), by simp, Nat.le_refl _, hrest.le, hup, .inr ⟨rfl, by omega⟩⟩
      intro Z e3 H3 k; rw [happ] at k; exact good_seq gA (good_seq gT k)
theorem pick_round (net : Net c) (hpk : Picks n pv) {p w a k i j : Nat} {l all : List MI} {told : List (List V)} {e : Env} (hp : p ≤ 66) (hs : Seq c p (upto c p) w l) (hall : ∀ z ∈ all, z ∈ ys c ∧ rho c z ≤ p) (hne : all ≠ []) (ht : Rows told)
    (hr : Rdy pv (rws c all) a k i e) (h12 : e.getD 12 V.undef = iN j) (hw : w ≤ 1000) (hup : upto c p ≤ 66) (ha : a ≤ n) :
    ∃ w' l' a' e', GoodE Tryz.prog S (.seq (.ops c82) (.cond (.t 82) dbD .skip)) e (std (fx c p) (bN c.g) (rws c l) (rws c all) told 1) .normal e' (std (fx c p) (bN c.g) (rws c l') (rws c all) told 1) ∧
      Rdy pv (rws c all) a' k i e' ∧ e'.getD 12 V.undef = iN j ∧ Seq c p (upto c p) w' l' ∧ a' ≤ n ∧ w' + 2 * (n - a') ≤ w + 2 * (n - a) := by
  have hfx := net.fxok p hp
  obtain ⟨e1, _, r1, rfl, r2, r3⟩ := (c82_run (X := lawD 39) (H := std (fx c p) (bN c.g) (rws c l) (rws c all) told 1) hr.len hr.h9 hr.h2 hpk.len).code (fuel := 3000)
  have hr1 := hr.same r2
  have h121 : e1.getD 12 V.undef = iN j := (r2.2 12 (by decide) (by decide)).trans h12
  by_cases h : a < n
  · obtain ⟨q, q1, q2⟩ := hpk.el a h
    have h0 : 0 < all.length := List.length_pos_iff.2 hne
    obtain ⟨y, hy⟩ : ∃ y, all[q % all.length]? = some y := ⟨_, List.getElem?_eq_getElem (Nat.mod_lt _ h0)⟩
    obtain ⟨y1, y2⟩ := hall y (List.mem_of_getElem? hy)
    obtain ⟨_, hto, hd⟩ := net.rows y y1
    have hb := net.backs p hp y y1 y2
    have hlen := hs.len
    obtain ⟨e2, gD, rD, d12⟩ := good_D (S := S) (zs := rws c (back c p y)) (n := all.length) (q := q) (x := row c y) (dst := toN c y) hfx (gv := bN c.g) rfl (rws_rows net hs.mem) (rws_rows net fun z hz => (hall z hz).1) ht hpk.firm hr1 h121 q2 q1 rws_len h0 (by rw [rws, List.getElem?_map, hy]; rfl) hto hd
      (fun hc => by
        rcases hb with h | ⟨z, _, _, _, _, _, h⟩
        · rw [h]; rfl
        · omega) (by have := hpk.le; omega) (by
        simp only [rws, List.length_map]
        rcases hb with h | ⟨z, h, _⟩ <;> rw [h] <;> simp <;> omega) (fun hc => net.idle p hp y y1 y2 hc)
    have g : GoodE Tryz.prog S (.seq (.ops c82) (.cond (.t 82) dbD .skip)) e (std (fx c p) (bN c.g) (rws c l) (rws c all) told 1) .normal e2 (std (fx c p) (bN c.g) (rws c (l ++ back c p y)) (rws c all) told 1) := by
      rw [rws_app]
      refine good_seq (good_eval tryzMixed (lawD_ok 39) 3000 r1) (good_cond r3 ?_)
      rw [if_pos (decide_eq_true h)]
      exact gD
    rcases hb with hb | ⟨z, hb, z1, z2, z3, z4, _⟩
    · exact ⟨w, _, a + 1, e2, g, rD, d12, by rw [hb, List.append_nil]; exact hs, h, by omega⟩
    · exact ⟨w + 1 + rk z, _, a + 1, e2, g, rD, d12, by rw [hb]; exact hs.put z1 z2, h, by omega⟩
  · refine ⟨w, l, a, e1, good_seq (good_eval tryzMixed (lawD_ok 39) 3000 r1) (good_cond r3 ?_), hr1, h121, hs, ha, Nat.le_refl _⟩
    rw [if_neg (by simp; omega)]
    exact good_eval tryzMixed (lawD_ok 39) 3000 rfl
theorem inner (net : Net c) (hpk : Picks n pv) {p0 pe : Nat} (hpe : pe ≤ 66) (hend : upto c pe = pe) (hmid : ∀ p, p0 ≤ p → p < pe → upto c p ≠ p) : ∀ (m p w a k i j : Nat) (l all : List MI) (told : List (List V)) (e : Env), (pe - p) + w + 2 * (n - a) ≤ m → m + j ≤ 599 → p0 ≤ p → p ≤ pe →
    Seq c p (upto c p) w l → (∀ z ∈ all, z ∈ ys c ∧ rho c z ≤ p) → Rows told → Rdy pv (rws c all) a k i e → e.getD 12 V.undef = iN j → upto c p ≤ 66 → a ≤ n → all.length + m < 80000 → told.length + m < 80000 →
    ∃ N e' a' j' all' told', GoodN Tryz.prog S dbI N e (std (fx c p) (bN c.g) (rws c l) (rws c all) told 1) (.exit 2) e' (std (fx c pe) (bN c.g) (rws c []) (rws c all') told' 1) ∧ Rdy pv (rws c all') a' k i e' ∧ e'.getD 12 V.undef = iN j' ∧
      (∀ z ∈ all', z ∈ ys c ∧ rho c z ≤ pe) ∧ Rows told' ∧ a' ≤ n ∧ all'.length ≤ all.length + m ∧ told'.length ≤ told.length + m := by
  intro m
  induction m with
  | zero =>
    intro p w a k i j l all told e hm hj hp0 hp1 hs hall ht hr h12 hup ha hal htl
    have hpp : p = pe := by omega
    subst hpp
    have hw : w = 0 := by omega
    subst hw
    have hnil : l = [] := by
      have := hs.len
      rw [hend] at this
      exact List.eq_nil_of_length_eq_zero (by omega)
    subst hnil
    obtain ⟨e1, _, r1, rfl, r2, r3⟩ := (c65_run (X := lawD 39) (H := std (fx c p) (bN c.g) (rws c []) (rws c all) told 1) (m := 0) hr.len (by omega) h12 hr.h7 (bv := .nils) (load_one (std_w (net.fxok p (by omega)).len) (Nat.zero_le _) rfl (by decide)) rfl).code (fuel := 3000)
    refine ⟨1, e1, a, j, all, told, goodN_last (by simp) (good_seq_out (by simp) (good_seq (good_eval tryzMixed (lawD_ok 39) 3000 r1) (good_cond r3 ?_))), hr.same r2, (r2.2 12 (by decide) (by decide)).trans h12, hall, ht, ha, by omega, by omega⟩
    exact good_eval tryzMixed (lawD_ok 39) 3000 rfl
  | succ m ih =>
    intro p w a k i j l all told e hm hj hp0 hp1 hs hall ht hr h12 hup ha hal htl
    have hfx := net.fxok p (by omega)
    cases l with
    | nil =>
      obtain ⟨e1, _, r1, rfl, r2, r3⟩ := (c65_run (X := lawD 39) (H := std (fx c p) (bN c.g) (rws c []) (rws c all) told 1) (m := 0) hr.len (by omega) h12 hr.h7 (bv := .nils) (load_one (std_w hfx.len) (Nat.zero_le _) rfl (by decide)) rfl).code (fuel := 3000)
      have hpp : p = pe := by
        have hup' : upto c p = p := by
          generalize hE : upto c p = E at hs
          cases hs
          rfl
        by_cases h : p < pe
        · exact absurd hup' (hmid p hp0 h)
        · omega
      subst hpp
      refine ⟨1, e1, a, j, all, told, goodN_last (by simp) (good_seq_out (by simp) (good_seq (good_eval tryzMixed (lawD_ok 39) 3000 r1) (good_cond r3 ?_))), hr.same r2, (r2.2 12 (by decide) (by decide)).trans h12, hall, ht, ha, by omega, by omega⟩
      exact good_eval tryzMixed (lawD_ok 39) 3000 rfl
    | cons y l =>
      obtain ⟨e1, _, r1, rfl, r2, r3⟩ := (c65_run (X := lawD 39) (H := std (fx c p) (bN c.g) (rws c (y :: l)) (rws c all) told 1) (m := l.length + 1) hr.len (by omega) h12 hr.h7 (bv := slV 23 (rws c (y :: l))) (load_one (std_w hfx.len) (Nat.zero_le _) rfl (by decide)) (by simp [slV, rws, lenK])).code (fuel := 3000)
      have h121 : e1.getD 12 V.undef = iN j := (r2.2 12 (by decide) (by decide)).trans h12
      obtain ⟨p', w', l', told', e2, g1, hr2, h122, hs', hall', ht', htl', pp1, pp2, hup', hmu⟩ := take_round (S := S) net hpk (by omega) hs hall ht (hr.same r2) h121 (by omega) (by omega) (by omega) hup
      have hp'e : p' ≤ pe := by
        by_cases h : p = pe
        · rw [h, hend] at pp2; omega
        · omega
      obtain ⟨w'', l'', a', e3, g2, hr3, h123, hs'', ha', hmu'⟩ := pick_round (S := S) net hpk (by omega) hs' hall' (by simp) ht' hr2 h122 (by omega) hup' ha
      obtain ⟨e4, _, v1, rfl, v2, v3⟩ := (incI_run (X := lawD 39) (H := std (fx c p') (bN c.g) (rws c l'') (rws c (all ++ [y])) told' 1) (s := 12) (p := 66) (q := 67) hr3.len (by decide) (by decide) (by decide) (by decide) (by decide) (show j < 99999 by omega) h123).code (fuel := 3000)
      have hr4 : Rdy pv (rws c (all ++ [y])) a' k i e4 := ⟨v2.1, (v2.2 2 (by decide) (by decide)).trans hr3.h2, (v2.2 7 (by decide) (by decide)).trans hr3.h7, (v2.2 8 (by decide) (by decide)).trans hr3.h8, (v2.2 9 (by decide) (by decide)).trans hr3.h9, (v2.2 10 (by decide) (by decide)).trans hr3.h10, (v2.2 11 (by decide) (by decide)).trans hr3.h11⟩
      have body : GoodE Tryz.prog S dbI e (std (fx c p) (bN c.g) (rws c (y :: l)) (rws c all) told 1) .normal e4 (std (fx c p') (bN c.g) (rws c l'') (rws c (all ++ [y])) told' 1) := by
        refine good_seq (good_seq (good_eval tryzMixed (lawD_ok 39) 3000 r1) (good_cond r3 ?_)) (good_seq (good_block (id := 3) (ex := .normal) (g1 g2)) (good_eval tryzMixed (lawD_ok 39) 3000 v1))
        exact good_eval tryzMixed (lawD_ok 39) 3000 rfl
      obtain ⟨N, e5, a5, j5, all5, told5, s1, s2, s3, s4, s5, s6, s7, s8⟩ := ih p' w'' a' k i (j + 1) l'' (all ++ [y]) told' e4 (by omega) (by omega) (by omega) hp'e hs'' hall' ht' hr4 v3 hup' ha' (by simp; omega) (by omega)
      exact ⟨N + 1, e5, a5, j5, all5, told5, goodN_more body s1, s2, s3, s4, s5, s6, by simp at s7; omega, by omega⟩
end
end Go.PE
