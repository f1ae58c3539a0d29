/- GroupMoves, its body in two pieces; from what the kernel has reckoned to the call's end. -/
import Derived.Test.YtcgjkbnijnefjaaGreatDoorMvK3
import Derived.KernelRfl
namespace Go.PE
open Go.Proofs Go.RowKit
set_option maxRecDepth 100000

/-- The n-th of codes that lie one behind the other. -/
def spineAt : Nat → ECode → ECode
  | 0, .seq a _ => a
  | n + 1, .seq _ b => spineAt n b
  | _, c => c
/-- .. and what lies behind the first n. -/
def restAt : Nat → ECode → ECode
  | 0, c => c
  | n + 1, .seq _ b => restAt n b
  | _ + 1, c => c

/-- The way to the rounds; the rounds. -/
def mvP : List ECode := [spineAt 0 lit6.body, spineAt 1 lit6.body, spineAt 2 lit6.body, spineAt 3 lit6.body, spineAt 4 lit6.body, spineAt 5 lit6.body, spineAt 6 lit6.body, spineAt 7 lit6.body, spineAt 8 lit6.body]
def mvRest : ECode := restAt 9 lit6.body
theorem mv_body : lit6.body = app mvP mvRest := by kernel_rfl

theorem chk_of {c : ECode} {D D1 a : Nat} {ex : Ex} (h : (chk c D).map (fun outs => (exD outs ex, wrt c &&& D1)) = some (a, 0)) : ∃ outs, chk c D = some outs ∧ exD outs ex = a ∧ wrt c &&& D1 = 0 := by
  rw [Option.map_eq_some_iff] at h
  obtain ⟨outs, h1, h2⟩ := h
  simp only [Prod.mk.injEq] at h2
  exact ⟨outs, h1, h2.1, h2.2⟩

def DR : Nat := (2 ^ 100 - 1) ^^^ (2 ^ 1 ||| 2 ^ 9 ||| 2 ^ 10 ||| 2 ^ 11 ||| 2 ^ 12)
theorem mvP_s : strip (app mvP .skip) = app mvP .skip := by kernel_rfl
theorem mvP_c : (chk (app mvP .skip) 2).map (fun outs => (exD outs .normal, wrt (app mvP .skip) &&& 2)) = some (2, 0) := by kernel_rfl
theorem mvRest_s : strip mvRest = mvRest := by kernel_rfl
theorem mvRest_c : (chk mvRest DR).map (fun outs => (exD outs .ret).testBit 8) = some false := by kernel_rfl

abbrev u96 : Env := List.replicate 96 V.undef
noncomputable def eP0 (g w : Nat) (b : Bool) : Env := [modV .u8 4 g, V.undef, modV .u8 3 w, .bool b] ++ u96
noncomputable def eR (eP : Env) (n : Nat) : Env := (((((List.replicate 100 V.undef).set 1 (modV .u8 9 n)).set 9 (eP.getD 9 V.undef)).set 10 (eP.getD 10 V.undef)).set 11 (eP.getD 11 V.undef)).set 12 (eP.getD 12 V.undef)
def upE (l : List (Nat × V)) (e : Env) : Env := l.foldl (fun e p => e.set p.1 p.2) e
def upH (l : List (Nat × Box)) (h : Heap) : Heap := l.foldl (fun h p => h.set p.1 p.2) h

/-- What the kernel reckons. -/
noncomputable def rP (g w : Nat) (b : Bool) (π : List Nat) (eP : Env) (hP : Heap) : Bool := Nat.beq eP.length 100 && phaseS ctx2 3000 100 (app mvP .skip) (eP0 g w b) [] .normal π 2 eP hP
noncomputable def rL (eP : Env) (hP : Heap) (n : Nat) : Bool := lastS ctx3 3000 100 mvRest (eR eP n) hP 8

theorem two_bit {t : Nat} : (2 : Nat).testBit t = true ↔ t = 1 := by
  rw [show (2 : Nat) = 2 ^ 1 from rfl, Nat.testBit_two_pow, decide_eq_true_eq]
  omega

theorem mv_all {g w n : Nat} {b : Bool} {π : List Nat} {eP : Env} {hP : Heap} (hp : rP g w b π eP hP = true) (hr : rL eP hP n = true) :
    ∃ e' H', GoodE Tryz.prog lit6.body ([modV .u8 4 g, modV .u8 9 n, modV .u8 3 w, .bool b] ++ u96) [] .ret e' H' ∧ e'.getD 8 V.undef = .bool true := by
  unfold rP at hp
  rw [Bool.and_eq_true] at hp
  have len := Nat.eq_of_beq_eq_true hp.1
  rw [mv_body]
  generalize he0 : ([modV .u8 4 g, modV .u8 9 n, modV .u8 3 w, .bool b] ++ u96 : Env) = e0
  have l0 : e0.length = 100 := by rw [← he0]; rfl
  have one : e0.getD 1 V.undef = modV .u8 9 n := by rw [← he0]; rfl
  have g2 : ∀ t, t < 100 → (mixD 2 e0 eP).getD t V.undef = if (2 : Nat).testBit t then e0.getD t V.undef else eP.getD t V.undef := fun t h => mixD_getD (by rw [len]; exact h)
  have agR : Agr DR (mixD 2 e0 eP) (eR eP n) := by
    refine ⟨by rw [mixD_len, len]; simp [eR], fun t h => ?_⟩
    by_cases hlt : t < 100
    · have hcase : t = 1 ∨ t = 9 ∨ t = 10 ∨ t = 11 ∨ t = 12 := by
        have key : ∀ t, t < 100 → DR.testBit t = false → t = 1 ∨ t = 9 ∨ t = 10 ∨ t = 11 ∨ t = 12 := by decide +kernel
        exact key t hlt h
      rw [g2 t hlt]
      rcases hcase with rfl | rfl | rfl | rfl | rfl
      · exact one
      · rfl
      · rfl
      · rfl
      · rfl
    · rw [List.getD_eq_getElem?_getD, List.getD_eq_getElem?_getD, List.getElem?_eq_none (by rw [mixD_len, len]; omega), List.getElem?_eq_none (by simp [eR]; omega)]
  obtain ⟨outsR, c1, c2⟩ := Option.map_eq_some_iff.1 mvRest_c
  obtain ⟨e', H', q1, q2⟩ := good_lastD tryzMixed law3_sim law3_ok mvRest_s c1 rfl c2 hr agR
  refine ⟨e', H', ?_, q2⟩
  obtain ⟨outsP, d1, d2, d3⟩ := chk_of mvP_c
  have agP : Agr 2 e0 (eP0 g w b) := by
    rw [← he0]
    refine ⟨rfl, fun t h => ?_⟩
    match t, h with
    | 0, _ => rfl
    | 1, h => exact absurd h (by decide)
    | 2, _ => rfl
    | 3, _ => rfl
    | t + 4, _ => rfl
  exact good_phases tryzMixed law2_sim law2_ok mvP_s d1 d2 d3 hp.2 agP (fun t h => by
    have := two_bit.1 h
    subst this
    rw [one]; rfl) q1

theorem mv_lit : cFunc Tryz.prog Tryz.f6 = some lit6 := by
  have h := lit6_ok
  unfold funcE at h
  split at h
  · rw [show Tryz.prog.funcs[6]? = some Tryz.f6 from Tryz.func6] at h; exact h
  · simp at h

/-- The call, from its class. -/
theorem mv_calls {g w n : Nat} {b : Bool} {π : List Nat} {eP : Env} {hP : Heap} (hp : rP g w b π eP hP = true) (hr : rL eP hP n = true) {x y z : Int} (hx : 0 ≤ x ∧ x < 256) (hy : 0 ≤ y ∧ y < 256) (hz : 0 ≤ z ∧ z < 256)
    (hg : x % 4 = g) (hn : y % 9 = n) (hw : z % 3 = w) (W : World) : Calls Tryz.prog 6 #[.int .u8 x, .int .u8 y, .int .u8 z, .bool b] W fun e W' => e = .returned (.bool true) ∧ Below W.heap.size W W' := by
  obtain ⟨e', H', q1, q2⟩ := mv_all hp hr
  exact good_callsA (fn := Tryz.f6) (ef := lit6) (t := 8) Tryz.func6 mv_lit rfl (args := [modV .u8 4 g, modV .u8 9 n, modV .u8 3 w, .bool b]) (R := ⟨fun _ _ => none, fun _ => none, fun _ _ => none, fun _ => none, fun _ => none⟩) (fun _ _ => rfl) (fun _ => rfl) (fun _ _ => rfl)
    (.cons (modV_ok hx.1 hx.2 (by decide) hg) (.cons (modV_ok hy.1 hy.2 (by decide) hn) (.cons (modV_ok hz.1 hz.2 (by decide) hw) (.cons (.bool b) .nil)))) (show 4 ≤ 100 by decide) (.inr rfl) q1 q2

end Go.PE
