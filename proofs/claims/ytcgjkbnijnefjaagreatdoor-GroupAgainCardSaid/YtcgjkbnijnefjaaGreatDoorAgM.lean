/- GroupAgain, its body in pieces; from what the kernel has reckoned to the call's end. -/
import Derived.Test.YtcgjkbnijnefjaaGreatDoorAgK3
import Derived.Test.YtcgjkbnijnefjaaGreatDoorEF
import Derived.KernelRfl
namespace Go.PE
open Go.Proofs Go.RowKit
set_option maxRecDepth 100000

/-- The n-th of codes that lie one behind the other. -/
def spineAt : Nat → ECode → ECode
  | 0, .seq a _ => a
  | n + 1, .seq _ b => spineAt n b
  | _, c => c
/-- .. and what lies behind the first n. -/
def restAt : Nat → ECode → ECode
  | 0, c => c
  | n + 1, .seq _ b => restAt n b
  | _ + 1, c => c

/-- The way to the last write's message; what is lost and taken; the restart; a round; the end. -/
def agA : List ECode := [spineAt 0 lit5.body, spineAt 1 lit5.body, spineAt 2 lit5.body, spineAt 3 lit5.body, spineAt 4 lit5.body, spineAt 5 lit5.body, spineAt 6 lit5.body, spineAt 7 lit5.body, spineAt 8 lit5.body, spineAt 9 lit5.body]
def agQ : List ECode := [spineAt 10 lit5.body, spineAt 11 lit5.body]
def agP : List ECode := [spineAt 12 lit5.body, spineAt 13 lit5.body, spineAt 14 lit5.body]
def agO : ECode := match spineAt 15 lit5.body with | .seq o _ => o | _ => .fail
def agB : ECode := match spineAt 15 lit5.body with | .seq _ (.block _ (.loop b)) => b | _ => .fail
def agD : ECode := spineAt 16 lit5.body
def agR : ECode := restAt 17 lit5.body
def agRest : ECode := .seq (.seq agO (.block 6 (.loop agB))) (.seq agD agR)
theorem ag_body : lit5.body = app agA (app agQ (app agP agRest)) := by kernel_rfl

/-- Slots that nobody reads behind the restart. -/
def KK : Nat := (2 ^ 110 - 2 ^ 69) ||| (2 ^ 13 ||| 2 ^ 14)

theorem chk_of {c : ECode} {D D1 a : Nat} {ex : Ex} (h : (chk c D).map (fun outs => (exD outs ex, wrt c &&& D1)) = some (a, 0)) : ∃ outs, chk c D = some outs ∧ exD outs ex = a ∧ wrt c &&& D1 = 0 := by
  rw [Option.map_eq_some_iff] at h
  obtain ⟨outs, h1, h2⟩ := h
  simp only [Prod.mk.injEq] at h2
  exact ⟨outs, h1, h2.1, h2.2⟩
theorem chk_or {c : ECode} {D K : Nat} {ex : Ex} (h : (chk c D).map (fun outs => exD outs ex ||| K) = some K) : ∃ outs, chk c D = some outs ∧ exD outs ex ||| K = K := by
  rw [Option.map_eq_some_iff] at h
  exact h

theorem agA_s : strip (app agA .skip) = app agA .skip := by kernel_rfl
theorem agA_c : (chk (app agA .skip) 4).map (fun outs => (exD outs .normal, wrt (app agA .skip) &&& 4)) = some (4, 0) := by kernel_rfl
theorem agB_s : strip (app ((agQ ++ agP) ++ [agO, agB]) .skip) = app ((agQ ++ agP) ++ [agO, agB]) .skip := by kernel_rfl
theorem agB_c : (chk (app ((agQ ++ agP) ++ [agO, agB]) .skip) 0).map (fun outs => exD outs .normal ||| KK) = some KK := by kernel_rfl
theorem agQ_s : strip (app agQ .skip) = app agQ .skip := by kernel_rfl
theorem agQ_c : (chk (app agQ .skip) 0).map (fun outs => exD outs .normal ||| KK) = some KK := by kernel_rfl
theorem agP_s : strip (app (agP ++ [agO, agB]) .skip) = app (agP ++ [agO, agB]) .skip := by kernel_rfl
theorem agP_c : (chk (app (agP ++ [agO, agB]) .skip) KK).map (fun outs => exD outs .normal ||| KK) = some KK := by kernel_rfl
theorem agC_s : strip (app [.block 6 (.loop agB), agD] .skip) = app [.block 6 (.loop agB), agD] .skip := by kernel_rfl
theorem agC_c : (chk (app [.block 6 (.loop agB), agD] .skip) KK).map (fun outs => exD outs .normal ||| KK) = some KK := by kernel_rfl
theorem agR_s : strip agR = agR := by kernel_rfl
theorem agR_c : (chk agR KK).map (fun outs => (exD outs .ret).testBit 8) = some false := by kernel_rfl
theorem agL_s : strip lit5.body = lit5.body := by kernel_rfl
theorem agL_c : (chk lit5.body 0).map (fun outs => (exD outs .ret).testBit 8) = some false := by kernel_rfl

def u229 : Env := List.replicate 229 V.undef
noncomputable def eA0 (g n : Nat) : Env := [modV .u8 4 g, modV .u8 9 n, V.undef, .syms 0 0 16] ++ u229
def upE (l : List (Nat × V)) (e : Env) : Env := l.foldl (fun e p => e.set p.1 p.2) e
def upH (l : List (Nat × Box)) (h : Heap) : Heap := l.foldl (fun h p => h.set p.1 p.2) h

/-- What the kernel reckons of a class: the way to the last write's message; what is lost and taken, the restart, the first round; (or: what is lost and taken; the restart, the first round); the other rounds; the end. -/
noncomputable def goA (g n : Nat) (π : List Nat) (eA : Env) (hA : Heap) : Bool := Nat.beq eA.length 233 && phaseV ctx3 3000 233 (app agA .skip) (eA0 g n) [] .normal π 4 eA hA
noncomputable def goB (r : Nat) (eA : Env) (hA : Heap) (π : List Nat) (eC : Env) (hC : Heap) : Bool := phaseV ctx3 3000 233 (app ((agQ ++ agP) ++ [agO, agB]) .skip) (eA.set 2 (modV .u8 12 r)) hA .normal π KK eC hC
noncomputable def goQ (r : Nat) (eA : Env) (hA : Heap) (π : List Nat) (eP : Env) (hP : Heap) : Bool := phaseV ctx3 3000 233 (app agQ .skip) (eA.set 2 (modV .u8 12 r)) hA .normal π KK eP hP
noncomputable def goP (eP : Env) (hP : Heap) (π : List Nat) (eC : Env) (hC : Heap) : Bool := phaseV ctx3 3000 233 (app (agP ++ [agO, agB]) .skip) eP hP .normal π KK eC hC
noncomputable def goC (eC : Env) (hC : Heap) (π : List Nat) (eZ : Env) (hZ : Heap) : Bool := phaseV ctx3 3000 233 (app [.block 6 (.loop agB), agD] .skip) eC hC .normal π KK eZ hZ
noncomputable def goZ (eZ : Env) (hZ : Heap) : Bool := (List.range 17).all fun L => lastS ctx3 3000 233 agR (V.szL 0 L eZ) (hZ.map (Box.sz 0 L)) 8

theorem app_app : ∀ (l : List ECode) (m : List ECode) (r : ECode), app (l ++ m) r = app l (app m r)
  | [], _, _ => rfl
  | a :: l, m, r => by simp only [List.cons_append, app, app_app l m r]

section
variable {s : ByteArray}

theorem z_ok (hs : s.size ≤ 16) {eZ : Env} {hZ : Heap} (h : goZ eZ hZ = true) : EndOK Tryz.prog (fun _ => some s) agR KK eZ hZ 8 := by
  have hz := List.all_eq_true.1 h s.size (List.mem_range.2 (by omega))
  obtain ⟨outs, c1, c2⟩ := Option.map_eq_some_iff.1 agR_c
  exact end_sz (i := 0) (L := s.size) rfl rfl (end_last tryzMixed law3_sim law3_ok agR_s c1 c2 hz)

theorem c_ok {eC eZ : Env} {hC hZ : Heap} {π : List Nat} (h : goC eC hC π eZ hZ = true) (hz : EndOK Tryz.prog (fun _ => some s) agR KK eZ hZ 8) : CycOK Tryz.prog (fun _ => some s) law3 3000 (.block 6 (.loop agB)) (.seq agD agR) KK eC hC 8 := by
  obtain ⟨outs, c1, c2⟩ := chk_or agC_c
  exact cyc_phase tryzMixed law3_sim law3_ok agC_s c1 c2 h hz

theorem b_ok {r : Nat} {eA eC : Env} {hA hC : Heap} {π : List Nat} (h : goB r eA hA π eC hC = true) (hc : CycOK Tryz.prog (fun _ => some s) law3 3000 (.block 6 (.loop agB)) (.seq agD agR) KK eC hC 8) :
    EndOK Tryz.prog (fun _ => some s) (app agQ (app agP agRest)) 0 (eA.set 2 (modV .u8 12 r)) hA 8 := by
  obtain ⟨outs, c1, c2⟩ := chk_or agB_c
  have := end_round tryzMixed law3_sim law3_ok agB_s c1 c2 h hc
  rw [app_app] at this
  exact this

theorem p_ok {eP eC : Env} {hP hC : Heap} {π : List Nat} (h : goP eP hP π eC hC = true) (hc : CycOK Tryz.prog (fun _ => some s) law3 3000 (.block 6 (.loop agB)) (.seq agD agR) KK eC hC 8) :
    EndOK Tryz.prog (fun _ => some s) (app agP agRest) KK eP hP 8 := by
  obtain ⟨outs, c1, c2⟩ := chk_or agP_c
  exact end_round tryzMixed law3_sim law3_ok agP_s c1 c2 h hc

theorem q_ok {r : Nat} {eA eP : Env} {hA hP : Heap} {π : List Nat} (h : goQ r eA hA π eP hP = true) (hp : EndOK Tryz.prog (fun _ => some s) (app agP agRest) KK eP hP 8) :
    EndOK Tryz.prog (fun _ => some s) (app agQ (app agP agRest)) 0 (eA.set 2 (modV .u8 12 r)) hA 8 := by
  obtain ⟨outs, c1, c2⟩ := chk_or agQ_c
  exact end_app tryzMixed law3_sim law3_ok agQ_s c1 c2 h hp

theorem four_bit {t : Nat} : (4 : Nat).testBit t = true ↔ t = 2 := by
  rw [show (4 : Nat) = 2 ^ 2 from rfl, Nat.testBit_two_pow, decide_eq_true_eq]
  omega

theorem a_ok {g n r : Nat} {eA : Env} {hA : Heap} {π : List Nat} (h : goA g n π eA hA = true) (hb : EndOK Tryz.prog (fun _ => some s) (app agQ (app agP agRest)) 0 (eA.set 2 (modV .u8 12 r)) hA 8) :
    ∃ e' H', GoodE Tryz.prog (fun _ => some s) lit5.body ([modV .u8 4 g, modV .u8 9 n, modV .u8 12 r, .syms 0 0 16] ++ u229) [] .ret e' H' ∧ e'.getD 8 V.undef = .bool true := by
  unfold goA at h
  rw [Bool.and_eq_true] at h
  have len := Nat.eq_of_beq_eq_true h.1
  rw [ag_body]
  generalize he0 : ([modV .u8 4 g, modV .u8 9 n, modV .u8 12 r, .syms 0 0 16] ++ u229 : Env) = e0
  have two : e0.getD 2 V.undef = modV .u8 12 r := by rw [← he0]; rfl
  have ag : Agr 0 (mixD 4 e0 eA) (eA.set 2 (modV .u8 12 r)) := by
    refine ⟨by rw [mixD_len, List.length_set], fun t _ => ?_⟩
    by_cases hlt : t < eA.length
    · rw [mixD_getD hlt, set_getD]
      by_cases ht : t = 2
      · subst ht
        rw [if_pos (four_bit.2 rfl), if_pos ⟨rfl, hlt⟩, two]
      · rw [if_neg (fun c => ht (four_bit.1 c)), if_neg (fun c => ht c.1)]
    · rw [List.getD_eq_getElem?_getD, List.getD_eq_getElem?_getD, List.getElem?_eq_none (by rw [mixD_len]; omega), List.getElem?_eq_none (by rw [List.length_set]; omega)]
  obtain ⟨e', H', q1, q2⟩ := hb _ ag
  refine ⟨e', H', ?_, q2⟩
  obtain ⟨outs, d1, d2, d3⟩ := chk_of agA_c
  have agP : Agr 4 e0 (eA0 g n) := by
    rw [← he0]
    refine ⟨rfl, fun t h => ?_⟩
    match t, h with
    | 0, _ => rfl
    | 1, _ => rfl
    | 2, h => exact absurd h (by decide)
    | 3, _ => rfl
    | t + 4, _ => rfl
  exact good_phasesV tryzMixed law3_sim law3_ok agA_s d1 d2 d3 h.2 agP (fun t h => by
    have := four_bit.1 h
    subst this
    rw [two]; rfl) q1

/-- What a class's runs come to. -/
def Ends (g n r : Nat) (s : ByteArray) : Prop := ∃ e' H', GoodE Tryz.prog (fun _ => some s) lit5.body ([modV .u8 4 g, modV .u8 9 n, modV .u8 12 r, .syms 0 0 16] ++ u229) [] .ret e' H' ∧ e'.getD 8 V.undef = .bool true

noncomputable def goQs (eA : Env) (hA : Heap) (m : Nat) (eP : Env) (hP : Heap) : Bool := [2, 3, 6, 7, 10, 11].all fun r => goQ r eA hA (List.range m) eP hP

theorem six {p : Nat → Prop} (h0 : p 0) (h1 : p 1) (h4 : p 4) (h5 : p 5) (h8 : p 8) (h9 : p 9) (r : Nat) (hr : r < 12) (h : r % 4 < 2) : p r := by
  have : r = 0 ∨ r = 1 ∨ r = 4 ∨ r = 5 ∨ r = 8 ∨ r = 9 := by omega
  rcases this with rfl | rfl | rfl | rfl | rfl | rfl <;> assumption

theorem all_ok (hs : s.size ≤ 16) {g n m r : Nat} {eA eP eC eZ : Env} {hA hP : Heap} {hC hZ : Nat → Heap} {πA πZ : List Nat} {πC : Nat → List Nat} (a : goA g n πA eA hA = true)
    (b : ∀ r, r < 12 → r % 4 < 2 → goB r eA hA (πC r) eC (hC r) = true) (q : goQs eA hA m eP hP = true) (p : goP eP hP (πC 2) eC (hC 2) = true)
    (c : ∀ r, goC eC (hC r) πZ eZ (hZ r) = true) (z : ∀ r, goZ eZ (hZ r) = true) (hr : r < 12) : Ends g n r s := by
  refine a_ok a ?_
  by_cases h : r % 4 < 2
  · exact b_ok (b r hr h) (c_ok (c r) (z_ok hs (z r)))
  · have hm : r ∈ [2, 3, 6, 7, 10, 11] := by
      have : r = 2 ∨ r = 3 ∨ r = 6 ∨ r = 7 ∨ r = 10 ∨ r = 11 := by omega
      simpa using this
    exact q_ok (List.all_eq_true.1 q r hm) (p_ok p (c_ok (c 2) (z_ok hs (z 2))))
end

theorem ag_lit : cFunc Tryz.prog Tryz.f5 = some lit5 := by
  have h := lit5_ok
  unfold funcE at h
  split at h
  · rw [show Tryz.prog.funcs[5]? = some Tryz.f5 from Tryz.func5] at h; exact h
  · simp at h

/-- What a call does. -/
def Goes (args : Array Value) (W : World) : Prop := Calls Tryz.prog 5 args W fun e W' => e = .returned (.bool true) ∧ Below W.heap.size W W'

/-- The call, from its class. -/
theorem ag_calls {g n r : Nat} {s : ByteArray} (h : Ends g n r s)
    {x y z : Int} (hx : 0 ≤ x ∧ x < 256) (hy : 0 ≤ y ∧ y < 256) (hz : 0 ≤ z ∧ z < 256) (hg : x % 4 = g) (hn : y % 9 = n) (hr : z % 12 = r) (hs : s.size ≤ 16) (W : World) : Goes #[.int .u8 x, .int .u8 y, .int .u8 z, .string s] W := by
  obtain ⟨e', H', q1, q2⟩ := h
  exact good_callsA (fn := Tryz.f5) (ef := lit5) (t := 8) Tryz.func5 ag_lit rfl (args := [modV .u8 4 g, modV .u8 9 n, modV .u8 12 r, .syms 0 0 16]) (R := ⟨fun _ _ => none, fun _ => none, fun _ _ => none, fun _ => none, fun _ => some s⟩) (fun _ _ => rfl) (fun _ => rfl) (fun _ _ => rfl)
    (.cons (modV_ok hx.1 hx.2 (by decide) hg) (.cons (modV_ok hy.1 hy.2 (by decide) hn) (.cons (modV_ok hz.1 hz.2 (by decide) hr) (.cons (.syms rfl (Nat.zero_le _) hs) .nil)))) (show 4 ≤ 233 by decide) (.inr rfl) q1 q2

/-- A text that is too long. -/
theorem long_last (a b c : V) : lastS ctx3 3000 233 lit5.body ([a, b, c, .syms 0 17 9223372036854775807] ++ u229) [] 8 = true := by kernel_rfl

theorem long_calls {s : ByteArray} {x y z : Int} (h1 : 17 ≤ s.size) (h2 : s.size ≤ 9223372036854775807) (W : World) : Goes #[.int .u8 x, .int .u8 y, .int .u8 z, .string s] W := by
  obtain ⟨outs, c1, c2⟩ := Option.map_eq_some_iff.1 agL_c
  obtain ⟨e', H', q1, q2⟩ := good_lastD (S := fun _ => some s) tryzMixed law3_sim law3_ok agL_s c1 rfl c2 (long_last (.int .u8 x) (.int .u8 y) (.int .u8 z)) ⟨rfl, fun _ _ => rfl⟩
  exact good_callsA (fn := Tryz.f5) (ef := lit5) (t := 8) Tryz.func5 ag_lit rfl (args := [.int .u8 x, .int .u8 y, .int .u8 z, .syms 0 17 9223372036854775807]) (R := ⟨fun _ _ => none, fun _ => none, fun _ _ => none, fun _ => none, fun _ => some s⟩) (fun _ _ => rfl) (fun _ => rfl) (fun _ _ => rfl)
    (.cons (.int _ _) (.cons (.int _ _) (.cons (.int _ _) (.cons (.syms rfl h1 h2) .nil)))) (show 4 ≤ 233 by decide) (.inr rfl) q1 q2

end Go.PE
