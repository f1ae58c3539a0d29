/- GroupStray, its body in pieces; from what the kernel has reckoned to the end of the run. -/
import Derived.Test.YtcgjkbnijnefjaaGreatDoorSrK2
import Derived.Test.YtcgjkbnijnefjaaGreatDoorEF
import Derived.KernelRfl
namespace Go.PE
open Go.Proofs Go.RowKit
set_option maxRecDepth 100000

/-- The n-th of codes that lie one behind the other. -/
def spineAt : Nat → ECode → ECode
  | 0, .seq a _ => a
  | n + 1, .seq _ b => spineAt n b
  | _, c => c
/-- .. and what lies behind the first n. -/
def restAt : Nat → ECode → ECode
  | 0, c => c
  | n + 1, .seq _ b => restAt n b
  | _ + 1, c => c

def srA : List ECode := [spineAt 0 lit3.body, spineAt 1 lit3.body, spineAt 2 lit3.body]
def srC : List ECode := [spineAt 3 lit3.body, spineAt 4 lit3.body, spineAt 5 lit3.body]
def srRest : ECode := restAt 6 lit3.body

theorem sr_body : lit3.body = app srA (app srC srRest) := by kernel_rfl

theorem chk_of {c : ECode} {D D1 a : Nat} {ex : Ex} (h : (chk c D).map (fun outs => (exD outs ex, wrt c &&& D1)) = some (a, 0)) : ∃ outs, chk c D = some outs ∧ exD outs ex = a ∧ wrt c &&& D1 = 0 := by
  rw [Option.map_eq_some_iff] at h
  obtain ⟨outs, h1, h2⟩ := h
  simp only [Prod.mk.injEq] at h2
  exact ⟨outs, h1, h2.1, h2.2⟩

/-- Slots that the first and the second part don't look at; all but those that the last one looks at. -/
def DA : Nat := 7
def DC : Nat := 2 ^ 1 ||| 2 ^ 2 ||| 2 ^ 3 ||| 2 ^ 19
def DR : Nat := (2 ^ 137 - 1) ^^^ (2 ^ 1 ||| 2 ^ 2 ||| 2 ^ 7 ||| 2 ^ 9 ||| 2 ^ 10)

theorem srA_s : strip (app srA .skip) = app srA .skip := by kernel_rfl
theorem srA_c : (chk (app srA .skip) DA).map (fun outs => (exD outs .normal, wrt (app srA .skip) &&& DA)) = some (DA, 0) := by kernel_rfl
theorem srC_s : strip (app srC .skip) = app srC .skip := by kernel_rfl
theorem srC_c : (chk (app srC .skip) DC).map (fun outs => (exD outs .normal, wrt (app srC .skip) &&& DC)) = some (DC, 0) := by kernel_rfl
theorem srRest_s : strip srRest = srRest := by kernel_rfl
theorem srRest_c : (chk srRest DR).map (fun outs => (exD outs .ret).testBit 8) = some false := by kernel_rfl
theorem srBody_s : strip lit3.body = lit3.body := by kernel_rfl
theorem srBody_c : (chk lit3.body 0).map (fun outs => (exD outs .ret).testBit 8) = some false := by kernel_rfl

/-- A class: the numbers' remainders; the operation. -/
abbrev srArgs (g : Nat) (vf ve : V) (co : List V) : List V := [modV .u8 4 g, vf, ve, .agg co]
abbrev uA : Env := List.replicate 133 V.undef
/-- Ahead of the first part, and behind it. -/
noncomputable def eA0 (co : List V) : Env := [V.undef, V.undef, V.undef, .agg co] ++ uA
noncomputable def eA1 (co : List V) : Env := ((((((eA0 co).set 7 (.ptr 0 0 0 6)).set 8 (.bool false)).set 17 (.bool true)).set 18 (.bool false)).set 19 (.agg co)).set 20 (.bool true) |>.set 21 (.bool false)
/-- Ahead of the second part. -/
noncomputable def eC (g : Nat) : Env := ((((([modV .u8 4 g, V.undef, V.undef, V.undef] ++ uA).set 7 (.ptr 0 0 0 6)).set 8 (.bool false)).set 17 (.bool true)).set 18 (.bool false)).set 20 (.bool true) |>.set 21 (.bool false)
/-- Ahead of the last part. -/
noncomputable def eR (eP : Env) (vf ve : V) : Env := (((((List.replicate 137 V.undef).set 1 vf).set 2 ve).set 7 (.ptr 0 0 0 6)).set 9 (eP.getD 9 V.undef)).set 10 (eP.getD 10 V.undef)

/-- What the kernel reckons. -/
noncomputable def rA (co : List V) : Bool := phaseS ctx2 3000 137 (app srA .skip) (eA0 co) [] .normal [0] DA (eA1 co) [.cells co 0 0]
noncomputable def rC (g : Nat) (π : List Nat) (eP : Env) (ht : Heap) (x : Box) : Option (Bool × Option Box) := phaseO ctx2 3000 137 (app srC .skip) (eC g) x .normal π DC eP ht
noncomputable def rR (eP : Env) (ht : Heap) (vf ve : V) (co : List V) : Bool := lastS ctx2 3000 137 srRest (eR eP vf ve) (.cells co 0 0 :: ht) 8
noncomputable def rI (e : Env) : Bool := lastS ctx2 3000 137 lit3.body e [] 8

/-- What the kernel has reckoned of one group. -/
structure SrData (g : Nat) (π : List Nat) (eP : Env) (ht : Heap) : Prop where
  c : ∀ x, rC g π eP ht x = some (true, some x)
  up : risesB (0 :: π) = true
  len : eP.length = 137
  p7 : eP.getD 7 V.undef = .ptr 0 0 0 6

/-- Values that bear no memory. -/
def flatB : V → Bool
  | .bool _ | .int .. | .str _ | .abs .. | .syms .. => true
  | _ => false
theorem flat_ren {π : Nat → Option Nat} {v : V} (h : flatB v = true) : V.ren π v = some v := by
  cases v <;> first | rfl | exact absurd h (by simp [flatB])
theorem flat_renL {π : Nat → Option Nat} : ∀ {l : List V}, l.all flatB = true → V.renL π l = some l
  | [], _ => rfl
  | v :: l, h => by
    simp only [List.all_cons, Bool.and_eq_true] at h
    simp only [V.renL, flat_ren h.1, flat_renL h.2]

theorem DA_bit {t : Nat} (h : DA.testBit t = true) : t = 0 ∨ t = 1 ∨ t = 2 := by
  by_cases h3 : t < 3
  · omega
  · exfalso
    unfold DA at h
    rw [Nat.testBit_lt_two_pow (show 7 < 2 ^ t from Nat.lt_of_lt_of_le (by decide : 7 < 2 ^ 3) (Nat.pow_le_pow_right (by decide) (by omega)))] at h
    simp at h
theorem DC_bit {t : Nat} (h : DC.testBit t = true) : t = 1 ∨ t = 2 ∨ t = 3 ∨ t = 19 := by
  simp only [DC, bit_or, Nat.testBit_two_pow, Bool.or_eq_true, decide_eq_true_eq] at h
  omega

section
variable {g : Nat} {π : List Nat} {eP : Env} {ht : Heap}

/-- Between the parts. -/
noncomputable def e1 (g : Nat) (vf ve : V) (co : List V) : Env := mixD DA (srArgs g vf ve co ++ uA) (eA1 co)
theorem e1_is (g : Nat) (vf ve : V) (co : List V) : e1 g vf ve co = ((eC g).set 1 vf |>.set 2 ve |>.set 3 (.agg co)).set 19 (.agg co) := by kernel_rfl

theorem sr_all (d : SrData g π eP ht) {vf ve : V} {co : List V} (hf : flatB vf = true) (he : flatB ve = true) (hco : co.all flatB = true) (ha : rA co = true) (hr : rR eP ht vf ve co = true) :
    ∃ e' H', GoodE Tryz.prog lit3.body (srArgs g vf ve co ++ uA) [] .ret e' H' ∧ e'.getD 8 V.undef = .bool true := by
  rw [sr_body]
  have ragg : ∀ p : Nat → Option Nat, V.ren p (.agg co) = some (.agg co) := fun p => by simp only [V.ren, flat_renL hco]
  have l1 : (e1 g vf ve co).length = 137 := by rw [e1_is]; simp [eC]
  -- the last part
  obtain ⟨outsR, c1, c2⟩ := Option.map_eq_some_iff.1 srRest_c
  have hm2 : (mixD DC (e1 g vf ve co) eP).length = 137 := by rw [mixD_len, d.len]
  have g2 : ∀ t, t < 137 → (mixD DC (e1 g vf ve co) eP).getD t V.undef = if DC.testBit t then (e1 g vf ve co).getD t V.undef else eP.getD t V.undef := fun t h => mixD_getD (by rw [d.len]; exact h)
  have agR : Agr DR (mixD DC (e1 g vf ve co) eP) (eR eP vf ve) := by
    refine ⟨by rw [hm2]; simp [eR], fun t h => ?_⟩
    by_cases hlt : t < 137
    · have hcase : t = 1 ∨ t = 2 ∨ t = 7 ∨ t = 9 ∨ t = 10 := by
        have key : ∀ t, t < 137 → DR.testBit t = false → t = 1 ∨ t = 2 ∨ t = 7 ∨ t = 9 ∨ t = 10 := by decide +kernel
        exact key t hlt h
      have h7 := d.p7
      rw [g2 t hlt, e1_is]
      rcases hcase with rfl | rfl | rfl | rfl | rfl
      · rfl
      · rfl
      · exact h7
      · rfl
      · rfl
    · rw [List.getD_eq_getElem?_getD, List.getD_eq_getElem?_getD, List.getElem?_eq_none (by omega), List.getElem?_eq_none (by simp [eR]; omega)]
  obtain ⟨e', H', q1, q2⟩ := good_lastD tryzMixed law2_sim law2_ok srRest_s c1 rfl c2 hr agR
  refine ⟨e', H', ?_, q2⟩
  -- the second
  obtain ⟨outsC, d1, d2, d3⟩ := chk_of srC_c
  have hx : Box.ren ((0 :: π)[·]?) (.cells co 0 0) = some (.cells co 0 0) := by simp only [Box.ren, flat_renL hco]
  have shC := phaseO_ok law2_sim (X := law2) (XK := ctx2) (fuel := 3000) (N := 137) (c := app srC .skip) (e := eC g) (ex := .normal) (by simp [eC]) d.up hx (d.c (.cells co 0 0))
  have agC : Agr DC (e1 g vf ve co) (eC g) := by
    refine ⟨by rw [l1]; simp [eC], fun t h => ?_⟩
    rw [e1_is]
    have n : ∀ k, DC.testBit k = true → t ≠ k := fun k hk c => by subst c; rw [hk] at h; simp at h
    rw [set_getD, if_neg (fun c => n 19 (by decide +kernel) c.1), set_getD, if_neg (fun c => n 3 (by decide +kernel) c.1), set_getD, if_neg (fun c => n 2 (by decide +kernel) c.1), set_getD, if_neg (fun c => n 1 (by decide +kernel) c.1)]
  have rigC : ∀ t, DC.testBit t = true → V.ren ((0 :: π)[·]?) ((e1 g vf ve co).getD t V.undef) = some ((e1 g vf ve co).getD t V.undef) := by
    intro t h
    rw [e1_is]
    rcases DC_bit h with rfl | rfl | rfl | rfl
    · exact flat_ren hf
    · exact flat_ren he
    · exact ragg _
    · exact ragg _
  have GC := good_shown tryzMixed law2_ok srC_s d1 d2 d3 shC agC rigC q1
  -- the first
  obtain ⟨outsA, f1, f2, f3⟩ := chk_of srA_c
  have agA : Agr DA (srArgs g vf ve co ++ uA) (eA0 co) := by
    refine ⟨rfl, fun t h => ?_⟩
    match t, h with
    | 0, h => exact absurd h (by decide)
    | 1, h => exact absurd h (by decide)
    | 2, h => exact absurd h (by decide)
    | t + 3, _ => rfl
  have rigA : ∀ t, DA.testBit t = true → V.ren (([0] : List Nat)[·]?) ((srArgs g vf ve co ++ uA).getD t V.undef) = some ((srArgs g vf ve co ++ uA).getD t V.undef) := by
    intro t h
    rcases DA_bit h with rfl | rfl | rfl
    · rfl
    · exact flat_ren hf
    · exact flat_ren he
  exact good_phases tryzMixed law2_sim law2_ok srA_s f1 f2 f3 ha agA rigA GC

end
end Go.PE
