/- GroupDoubles: a write that is asked for, the end, the beginning: what the kernel reckons of them, and the call. -/
import Derived.Test.YtmdnkhidhkbgcaaGreatDoorDbQ
import Derived.KernelRfl
namespace Go.PE
open Go.Proofs Go.RowKit
set_option maxRecDepth 100000
def u178 : Env := List.replicate 178 V.undef
def ones178 : Nat := 2 ^ 178 - 1
def hk (lit : Nat → Option Box) (gv tv : V) (vs : Nat → Box) : Heap := hist ++ (List.range' 11 16).map fun b => bif Nat.beq b 22 then .cells (wCells gv .nils tv) 0 0 else match lit b with | some x => x | none => vs b
def litA (c : GP) (p b : Nat) : Option Box := bif Nat.beq b (11 + c.a) then some (.cells (primC c p) 0 0) else bif Nat.beq b (16 + c.a) then some (actB c) else bif Nat.beq b 21 then some (waitB c p) else none
def litZ (c : GP) (p b : Nat) : Option Box := bif Nat.beq b (11 + c.a) then some (.cells (primC c p) 0 0) else bif Nat.beq b (11 + c.d1) then some (.cells (grpC c c.d1 p) 0 0) else bif Nat.beq b (11 + c.d2) then some (.cells (grpC c c.d2 p) 0 0) else none
theorem hk_eq {c : GP} {p : Nat} {lit : Nat → Option Box} {told all : List (List V)} (h : ∀ b x, lit b = some x → (fx c p)[b]? = some x) : hk lit (bN c.g) (slV 25 told) (vsOf (std (fx c p) (bN c.g) [] all told 1)) = std (fx c p) (bN c.g) [] all told 1 := by
  have hl := std_len (fx := fx c p) (gv := bN c.g) (bag := []) (all := all) (told := told) (pads := 1) rfl
  have hlo : ∀ b, b < 22 → (std (fx c p) (bN c.g) [] all told 1)[b]? = (fx c p)[b]? := fun b hb => std_lo rfl hb
  have hw := std_w (fx := fx c p) (gv := bN c.g) (bag := []) (all := all) (told := told) (pads := 1) rfl
  generalize std (fx c p) (bN c.g) [] all told 1 = H at hl hlo hw
  refine List.ext_getElem? fun b => ?_
  unfold hk
  by_cases h1 : b < 11
  · rw [List.getElem?_append_left h1, hlo b (by omega), hist_at h1]
  · rw [List.getElem?_append_right (show hist.length ≤ b by show 11 ≤ b; omega), show hist.length = 11 from rfl, List.getElem?_map]
    by_cases h2 : b < 27
    · rw [List.getElem?_range' (by omega), show 11 + 1 * (b - 11) = b by omega, Option.map_some]
      have hvs : some (vsOf H b) = H[b]? := by unfold vsOf; rw [List.getElem?_eq_getElem (show b < H.length by omega)]
      by_cases e1 : b = 22
      · subst e1; rw [hw]; rfl
      · rw [beq_ne e1]
        cases hb : lit b with
        | none => exact hvs
        | some x =>
          have hx := h b x hb
          have hlt : b < 22 := (List.getElem?_eq_some_iff.1 hx).1
          rw [hlo b hlt, hx]
          rfl
    · rw [List.getElem?_eq_none (by simp; omega), List.getElem?_eq_none (by omega)]
      rfl
noncomputable def bagOf (g : Nat → Option Box) : Nat × Nat := match g 22 with | some (Box.cells l _ _) => (match (l[7]? : Option V) with | some (V.slice b v _ _ _ _) => (b, v) | _ => (0, 0)) | _ => (0, 0)
def fA2 (wt : Nat × Nat × Nat) (bb : Nat) (b : Nat) : Bool := Nat.ble 27 b && (!Nat.beq b wt.1 && !Nat.beq b bb)
noncomputable def ckA (c : GP) (p : Nat) (x : V) (_ : List V) (g : Nat → Option Box) : Bool :=
  (fun wt : Nat × Nat × Nat => (fun bb : Nat × Nat => (fun μ : Mv =>
    V.beq x (exV .normal) && ((Nat.beq wt.1 21 || Nat.ble 28 wt.1) && (Nat.ble 28 bb.1 && (!Nat.beq bb.1 wt.1 &&
    ((match g 22 with | some (Box.cells l v m) => Nat.beq l.length 9 && (Nat.beq v 0 && (Nat.beq m 0 && (match (l[7]? : Option V) with | some w => V.beq w (.slice bb.1 bb.2 0 2 131 none) | none => false))) | _ => false) &&
    ((match g bb.1 with | some (Box.cells raw v m) => Nat.beq v bb.2 && (Nat.ble m v && V.fzL μ g (fA2 wt bb.1) (row c (main c (p + 1)) ++ row c (main c (p + 2))) raw) | _ => false) &&
    ((match g (11 + c.a) with | some y => Box.fzB μ g (fA2 wt bb.1) (11 + c.a) (.cells (primC c (p + 1)) 0 0) y | none => false) && (match g wt.1 with | some y => Box.fzB μ g (fA2 wt bb.1) 21 (waitB c (p + 1)) y | none => false))))))))
    (nmv wt none none none)) (bagOf g)) (wtOf true c.a g)
def ksA (c : GP) : List Nat := (List.range 27).filter fun b => !(Nat.beq b (11 + c.a) || (Nat.beq b 21 || Nat.beq b 22))
noncomputable def kfA (c : GP) (g : Nat → Option Box) : List (Option Box) := (match g 22 with | some (.cells l v m) => some (.cells (l.set 7 .nils) v m) | _ => none) :: (ksA c).map g
def eAsk (i : Nat) : Env := (u178.set 7 (.ptr 22 0 0 9)).set 11 (wN i)
abbrev VT := V × (Nat → Box)
noncomputable def rAsk (c : GP) (i : Nat) (v : VT) : FR := codeO (ctxD 39) 3000 178 dbK (eAsk i) (hk (litA c (6 + 6 * i)) (bN c.g) v.1 v.2) (ckA c (6 + 6 * i)) (kfA c)
noncomputable def xAsk (c : GP) (i : Nat) (v : VT) : FR := some (true, some (.cells (wCells (bN c.g) .nils v.1) 0 0) :: (ksA c).map fun b => (hk (litA c (6 + 6 * i)) (bN c.g) v.1 v.2)[b]?)
def DAsk : Nat := ones178 ^^^ (2 ^ 7 ||| 2 ^ 11)
theorem dbK_s : strip dbK = dbK := by kernel_rfl
theorem dbK_c : (chk dbK DAsk).isSome = true := by kernel_rfl
theorem dbK_w : ∀ t ∈ [2, 7, 8, 9, 10, 11, 12], (wrt dbK).testBit t = false := by decide +kernel
theorem ask_bit {t : Nat} (ht : t < 178) : DAsk.testBit t = false → t = 7 ∨ t = 11 := by
  have key : ∀ t, t < 178 → DAsk.testBit t = false → t = 7 ∨ t = 11 := by decide +kernel
  exact key t ht
theorem agr_of {D : Nat} {e e0 : Env} (h1 : e0.length = 178) (h2 : e.length = 178) (h : ∀ t, t < 178 → D.testBit t = false → e0.getD t V.undef = e.getD t V.undef) : Agr D e0 e := by
  refine ⟨h1.trans h2.symm, fun t ht => ?_⟩
  by_cases hl : t < 178
  · exact h t hl ht
  · rw [List.getD_eq_getElem?_getD, List.getD_eq_getElem?_getD, List.getElem?_eq_none (by omega), List.getElem?_eq_none (by omega)]
theorem set7 {gv tv : V} {l : List V} (h : l.set 7 .nils = wCells gv .nils tv) {bv : V} (h7 : l[7]? = some bv) : l = wCells gv bv tv := by
  refine List.ext_getElem? fun t => ?_
  by_cases ht : t = 7
  · subst ht; rw [h7]; rfl
  · have := congrArg (fun l => l[t]?) h
    simp only [List.getElem?_set_ne (Ne.symm ht)] at this
    rw [this]
    match t, ht with
    | 0, _ | 1, _ | 2, _ | 3, _ | 4, _ | 5, _ | 6, _ | 8, _ => rfl
    | 7, h => exact absurd rfl h
    | t + 9, _ => rfl
theorem litA_ok {c : GP} (ha : c.a < 5) {p b : Nat} {x : Box} (h : litA c p b = some x) : (fx c p)[b]? = some x := by
  unfold litA at h
  by_cases h1 : b = 11 + c.a
  · subst h1
    rw [Nat.beq_refl] at h
    simp only [cond_true, Option.some.injEq] at h; subst h
    rw [fx_grp ha, grp_prim]
  rw [beq_ne h1] at h
  by_cases h2 : b = 16 + c.a
  · subst h2
    rw [Nat.beq_refl] at h
    simp only [cond_true, cond_false, Option.some.injEq] at h; subst h
    exact fx_act ha
  rw [beq_ne h2] at h
  by_cases h3 : b = 21
  · subst h3
    rw [Nat.beq_refl] at h
    simp only [cond_true, cond_false, Option.some.injEq] at h; subst h
    exact fx_wait
  rw [beq_ne h3] at h
  simp at h
def k11 (c : GP) : Bool := (List.range' 1 9).all fun i => (List.range 5).all fun d => Nat.beq d c.a || boxB (.cells (grpC c d (7 + 6 * i)) 0 0) (.cells (grpC c d (6 + 6 * i)) 0 0)
theorem ask_of {c : GP} (h1 : k1 c = true) (h9 : k9 c = true) {i : Nat} (hi : 1 ≤ i) (h11 : k11 c = true) (hi9 : i ≤ 9)
    (h : ∀ v, rAsk c i v = xAsk c i v) : AskOK c i := by
  intro S pv all told a k j e hp ha ht hr h12
  have ha5 : c.a < 5 := by
    unfold k9 at h9
    simp only [Bool.and_eq_true] at h9
    exact blt_lt' h9.2.2.1
  have hsame : ∀ b, b < 21 → b ≠ 11 + c.a → (fx c (7 + 6 * i))[b]? = (fx c (6 + 6 * i))[b]? := fun b hb hba => by
    by_cases h11' : b < 11
    · rw [hist_at h11', hist_at h11']
    by_cases h16 : b < 16
    · obtain ⟨d, rfl⟩ : ∃ d, b = 11 + d := ⟨b - 11, by omega⟩
      rw [fx_grp (by omega), fx_grp (by omega)]
      have := all_lt (List.all_eq_true.1 h11 i (List.mem_range'_1.2 ⟨hi, by omega⟩)) (show d < 5 by omega)
      rw [beq_ne (show d ≠ c.a by omega), Bool.false_or] at this
      exact congrArg some (boxB_eq this)
    · obtain ⟨d, rfl⟩ : ∃ d, b = 16 + d := ⟨b - 16, by omega⟩
      rw [fx_act (by omega), fx_act (by omega)]
  have hf := h (slV 25 told, vsOf (std (fx c (6 + 6 * i)) (bN c.g) [] all told 1))
  unfold rAsk xAsk at hf
  rw [hk_eq (fun b x => litA_ok ha5)] at hf
  have hlen := std_len (fx := fx c (6 + 6 * i)) (gv := bN c.g) (bag := []) (all := all) (told := told) (pads := 1) rfl
  have hlo : ∀ b, b < 22 → (std (fx c (6 + 6 * i)) (bN c.g) [] all told 1)[b]? = (fx c (6 + 6 * i))[b]? := fun b hb => std_lo rfl hb
  have hal := std_all (fx := fx c (6 + 6 * i)) (gv := bN c.g) (bag := []) (all := all) (told := told) (pads := 1) rfl
  have htd := std_told (fx := fx c (6 + 6 * i)) (gv := bN c.g) (bag := []) (all := all) (told := told) (pads := 1) rfl
  generalize std (fx c (6 + 6 * i)) (bN c.g) [] all told 1 = H at hf hlen hlo hal htd ⊢
  obtain ⟨outs, hc⟩ := Option.isSome_iff_exists.1 dbK_c
  have hag : Agr DAsk e (eAsk i) := agr_of hr.len (by simp [eAsk, u178]) fun t ht hD => by
    rcases ask_bit ht hD with rfl | rfl
    · rw [hr.h7]; rfl
    · rw [hr.h11]; rfl
  obtain ⟨ex, e1, e01, L, q1, q2, q3, _, q5, _⟩ := codeO_ok (lawD_sim 39) (by simp [eAsk, u178]) (by omega) dbK_s hc hag hf
  have keep : ∀ t ∈ [2, 7, 8, 9, 10, 11, 12], e01.getD t V.undef = e.getD t V.undef := fun t h => code_keep dbK (dbK_w t h) _ _ _ _ _ q1
  unfold ckA at q2
  simp only [Bool.and_eq_true] at q2
  obtain ⟨c1, c2, c3, c4, c5, c6, c7, c8⟩ := q2
  have hx := exV_inj (V.beq_eq _ _ c1)
  subst hx
  generalize wtOf true c.a (L[·]?) = wt at c2 c4 c6 c7 c8
  generalize bagOf (L[·]?) = bb at c3 c4 c5 c6 c7 c8
  unfold kfA at q3
  have q30 := (List.cons.inj q3).1
  have q31 := (List.cons.inj q3).2
  have hkp : ∀ b, b < 27 → b ≠ 11 + c.a → b ≠ 21 → b ≠ 22 → L[b]? = H[b]? := fun b hb e1 e2 e3 => by
    have hm : b ∈ ksA c := List.mem_filter.2 ⟨List.mem_range.2 hb, by rw [beq_ne e1, beq_ne e2, beq_ne e3]; rfl⟩
    obtain ⟨k, hk, hkb⟩ := List.getElem_of_mem hm
    have := congrArg (fun l => l[k]?) q31
    simp only [List.getElem?_map, List.getElem?_eq_getElem hk, Option.map_some, Option.some.injEq, hkb] at this
    exact this
  -- the world
  have hw : L[22]? = some (.cells (wCells (bN c.g) (.slice bb.1 bb.2 0 2 131 none) (slV 25 told)) 0 0) := by
    split at c5
    · rename_i l v m hl
      simp only [hl, Option.some.injEq, Box.cells.injEq] at q30
      simp only [Bool.and_eq_true] at c5
      obtain ⟨_, _, _, d4⟩ := c5
      split at d4
      · rename_i w hw7
        have := V.beq_eq _ _ d4
        subst this
        rw [hl, set7 q30.1 hw7, q30.2.1, q30.2.2]
      · simp at d4
    · simp at c5
  obtain ⟨raw, v, m, hraw, r1, r2, r3⟩ : ∃ raw v m, L[bb.1]? = some (.cells raw v m) ∧ v = bb.2 ∧ m ≤ v ∧ V.fzL (nmv wt none none none) (L[·]?) (fA2 wt bb.1) (row c (main c (6 + 6 * i + 1)) ++ row c (main c (6 + 6 * i + 2))) raw = true := by
    split at c6
    · rename_i raw v m hr
      simp only [Bool.and_eq_true] at c6
      exact ⟨raw, v, m, hr, beq_is c6.1, ble_le c6.2.1, c6.2.2⟩
    · simp at c6
  subst r1
  have c3 := ble_le c3
  have c4 : bb.1 ≠ wt.1 := fun h => by rw [is_beq h] at c4; simp at c4
  have c2 : wt.1 = 21 ∨ 28 ≤ wt.1 := by
    rw [Bool.or_eq_true] at c2
    rcases c2 with c2 | c2
    · exact .inl (beq_is c2)
    · exact .inr (ble_le c2)
  let ra : Option (Nat × Nat) := if all = [] then none else some (24, 0)
  let rt : Option (Nat × Nat) := if told = [] then none else some (25, 0)
  have hle := nmv_le (wt := wt) (rb := some bb) (ra := ra) (rt := rt)
  have hmono : ∀ b x, fA2 wt bb.1 b = true → L[b]? = some x → fA2 wt bb.1 b = true ∧ L[b]? = some x := fun b x h1 h2 => ⟨h1, h2⟩
  have r3 : V.fzL (nmv wt (some bb) ra rt) (L[·]?) (fA2 wt bb.1) [row c (main c (7 + 6 * i)), row c (main c (8 + 6 * i))].flatten raw = true := by
    have := fzL_mono hle hmono _ _ r3
    rw [show 6 + 6 * i + 1 = 7 + 6 * i by omega, show 6 + 6 * i + 2 = 8 + 6 * i by omega] at this
    simpa using this
  have hp1 : 6 + 6 * i + 1 = 7 + 6 * i := by omega
  rw [hp1] at c7 c8
  have hr1 : Rdy pv all a k i e01 := ⟨q5, (keep 2 (by simp)).trans hr.h2, (keep 7 (by simp)).trans hr.h7, (keep 8 (by simp)).trans hr.h8, (keep 9 (by simp)).trans hr.h9, (keep 10 (by simp)).trans hr.h10, (keep 11 (by simp)).trans hr.h11⟩
  have h121 : e01.getD 12 V.undef = iN j := (keep 12 (by simp)).trans h12
  have ren : RenFz (nmv wt (some bb) ra rt) (fA2 wt bb.1) (cln e01 (slV 24 all)) (std (fx c (7 + 6 * i)) (bN c.g) [row c (main c (7 + 6 * i)), row c (main c (8 + 6 * i))] all told 1) e01 L := by
    refine ren_std (bv := .slice bb.1 bb.2 0 2 131 none) (av := slV 24 all) (tv := slV 25 told) rfl (fun b hb => ?_) hw rfl ?_ ?_ ?_ ⟨c2, fun p v h => ?_, fun p v h => ?_, fun p v h => ?_, fun p v q u h1 h2 => ?_, fun p v q u h1 h2 => ?_, fun p v q u h1 h2 => ?_⟩ (fun b b0 h => ?_)
      (cln_fz hr1.len hp hr1.h2 hr1.h7 hr1.h9 hr1.h10 hr1.h11 h121 ⟨rfl, rfl, rfl⟩ ?_)
    · by_cases hba : b = 11 + c.a
      · subst hba
        split at c7
        · rename_i y hy
          have hn := nmv_lo (wt := wt) (rb := some bb) (ra := ra) (rt := rt) (show 11 + c.a < 21 by omega)
          exact ⟨_, _, y, hn.1, (by rw [fx_grp ha5, grp_prim]), hy, fzB_mono hle hmono (hn.2.1.trans (nmv_lo (by omega)).2.1.symm) (hn.2.2.trans (nmv_lo (by omega)).2.2.symm) c7⟩
        · simp at c7
      by_cases hb21 : b = 21
      · subst hb21
        split at c8
        · rename_i y hy
          exact ⟨_, _, y, rfl, fx_wait, hy, fzB_mono hle hmono rfl rfl c8⟩
        · simp at c8
      · obtain ⟨x, u1, u2, u3⟩ := fx_own h1 h9 (p := 6 + 6 * i) (by omega) hb
        have hn := nmv_lo (wt := wt) (rb := some bb) (ra := ra) (rt := rt) (show b < 21 by omega)
        exact ⟨b, x, x, hn.1, (hsame b (by omega) hba).trans u1, ((hkp b (by omega) hba hb21 (by omega)).trans (hlo b hb)).trans u1, own_fzB (n := 21) (fun b hb => nmv_lo hb) hn.2.1 hn.2.2 (u3 hba)⟩
    · exact .inr ⟨by simp, bb.1, bb.2, m, raw, rfl, rfl, hraw, r2, r3⟩
    · exact Holds.same ha ((hkp 24 (by decide) (by omega) (by decide) (by decide)).trans hal)
    · exact Holds.same ht ((hkp 25 (by decide) (by omega) (by decide) (by decide)).trans htd)
    · simp only [Option.some.injEq] at h; subst h; exact ⟨by simp at c3; omega, c4⟩
    · have := if_pair h; omega
    · have := if_pair h; omega
    · simp only [Option.some.injEq] at h1; subst h1; have := if_pair h2; simp at c3; omega
    · simp only [Option.some.injEq] at h1; subst h1; have := if_pair h2; simp at c3; omega
    · have := if_pair h1; have := if_pair h2; omega
    · have hlo : b0 < 27 ∨ b0 = wt.1 ∨ b0 = bb.1 := by
        rcases nmv_pi h with ⟨_, _⟩ | ⟨_, _⟩ | ⟨_, _⟩ | ⟨_, v, h⟩ | ⟨_, v, h⟩ | ⟨_, v, h⟩
        · omega
        · omega
        · omega
        · simp only [Option.some.injEq] at h; subst h; exact .inr (.inr rfl)
        · have := if_pair h; omega
        · have := if_pair h; omega
      rcases hlo with h1 | rfl | rfl
      · have : Nat.ble 27 b0 = false := Bool.eq_false_iff.2 fun c => by have := ble_le c; omega
        simp [fA2, this]
      · simp [fA2]
      · simp [fA2]
    · rw [hr1.h8]
      exact slV_names fun h => ⟨by show (if all = [] then none else some (24, 0) : Option (Nat × Nat)).map (·.1) = _; rw [if_neg h]; rfl, rfl, by show (match (if all = [] then none else some (24, 0) : Option (Nat × Nat)) with | some p => p.2 | none => 0) = 0; rw [if_neg h]⟩
  exact ⟨_, good_outF (good_eval tryzMixed (lawD_ok 39) 3000 q1) ren, cln_rdy hr1.h2 hr1.h7 hr1.h9 hr1.h10 hr1.h11, by rw [cln_12, h121]⟩
def eFin (k : Nat) : Env := (u178.set 7 (.ptr 22 0 0 9)).set 10 (wN k)
noncomputable def ckF (x : V) (e' : List V) (_ : Nat → Option Box) : Bool := V.beq x (exV .ret) && V.beq (e'.getD 6 V.undef) (.bool true)
noncomputable def rFin (c : GP) (k : Nat) (v : VT) : FR := codeO (ctxD 39) 3000 178 dbE (eFin k) (hk (litZ c (12 + 6 * k)) (bN c.g) v.1 v.2) ckF fun _ => []
def DFin : Nat := ones178 ^^^ (2 ^ 7 ||| 2 ^ 10)
theorem dbE_s : strip dbE = dbE := by kernel_rfl
theorem dbE_c : (chk dbE DFin).map (fun outs => (exD outs .ret).testBit 6) = some false := by kernel_rfl
theorem fin_bit {t : Nat} (ht : t < 178) : DFin.testBit t = false → t = 7 ∨ t = 10 := by
  have key : ∀ t, t < 178 → DFin.testBit t = false → t = 7 ∨ t = 10 := by decide +kernel
  exact key t ht
theorem litZ_ok {c : GP} (ha : c.a < 5) (h1 : c.d1 < 5) (h2 : c.d2 < 5) {p b : Nat} {x : Box} (h : litZ c p b = some x) : (fx c p)[b]? = some x := by
  unfold litZ at h
  by_cases e1 : b = 11 + c.a
  · subst e1
    rw [Nat.beq_refl] at h
    simp only [cond_true, Option.some.injEq] at h; subst h
    rw [fx_grp ha, grp_prim]
  rw [beq_ne e1] at h
  by_cases e2 : b = 11 + c.d1
  · subst e2
    rw [Nat.beq_refl] at h
    simp only [cond_true, cond_false, Option.some.injEq] at h; subst h
    exact fx_grp h1
  rw [beq_ne e2] at h
  by_cases e3 : b = 11 + c.d2
  · subst e3
    rw [Nat.beq_refl] at h
    simp only [cond_true, cond_false, Option.some.injEq] at h; subst h
    exact fx_grp h2
  rw [beq_ne e3] at h
  simp at h
theorem fin_of {c : GP} (ha : c.a < 5) (hd1 : c.d1 < 5) (hd2 : c.d2 < 5) {k : Nat} (h : ∀ v, rFin c k v = some (true, [])) : FinOK c k := by
  intro S pv all told a i e hr
  have hf := h (slV 25 told, vsOf (std (fx c (12 + 6 * k)) (bN c.g) [] all told 1))
  unfold rFin at hf
  rw [hk_eq (fun b x => litZ_ok ha hd1 hd2)] at hf
  have hlen := std_len (fx := fx c (12 + 6 * k)) (gv := bN c.g) (bag := []) (all := all) (told := told) (pads := 1) rfl
  generalize std (fx c (12 + 6 * k)) (bN c.g) [] all told 1 = H at hf hlen ⊢
  obtain ⟨outs, hc, ho⟩ := Option.map_eq_some_iff.1 dbE_c
  have hag : Agr DFin e (eFin k) := agr_of hr.len (by simp [eFin, u178]) fun t ht hD => by
    rcases fin_bit ht hD with rfl | rfl
    · rw [hr.h7]; rfl
    · rw [hr.h10]; rfl
  obtain ⟨ex, e1, e01, L, q1, q2, _, _, _, q6⟩ := codeO_ok (lawD_sim 39) (by simp [eFin, u178]) (by omega) dbE_s hc hag hf
  unfold ckF at q2
  rw [Bool.and_eq_true] at q2
  have hx := exV_inj (V.beq_eq _ _ q2.1)
  subst hx
  exact ⟨e01, L, good_eval tryzMixed (lawD_ok 39) 3000 q1, by rw [q6 6 ho]; exact V.beq_eq _ _ q2.2⟩
def cellAt (g : Nat → Option Box) (b j : Nat) : V := match g b with | some (.cells l _ _) => l.getD j V.undef | _ => V.undef
def bxOf : V → Nat
  | .ptr b _ _ _ => b
  | .slice b _ _ _ _ _ => b
  | .map b => b
  | _ => 999999
def nmQ (e : List V) (g : Nat → Option Box) : MvT :=
  (fun w : Nat => (fun h : Nat =>
    [some (h, 0, 0), some (bxOf (cellAt g h 0), 0, 0), some (bxOf (cellAt g h 1), 0, 0)] ++ ([3, 4, 5, 6].flatMap fun j => [some (bxOf (cellAt g h j), 0, 0), some (bxOf (cellAt g (bxOf (cellAt g h j)) 1), 0, 0)]) ++
    ((List.range 5).map (fun d => some (bxOf (cellAt g w (2 + d)), 0, 0)) ++ ((List.range 5).map (fun d => some (bxOf (cellAt g (bxOf (cellAt g w (2 + d))) 53), 0, 0)) ++ [none, some (w, 0, 0), some (bxOf (cellAt g w 7), 0, 0)])))
    (bxOf (cellAt g w 0))) (bxOf (e.getD 7 V.undef))
def eG (g : Nat) : Env := modV .u8 4 g :: List.replicate 177 V.undef
def st0 (c : GP) : Heap := std (fx c 0) (bN c.g) (rws c [main c 0, main c 1, main c 2, main c 3]) [] [] 1
def eS0 : Env := ((u178.set 7 (.ptr 22 0 0 9)).set 8 .nils).set 9 (iN 0)
def LitQ : Nat := 2 ^ 7 ||| (2 ^ 8 ||| 2 ^ 9)
noncomputable def rBeg (c : GP) (g : Nat) : FR := codeO (ctxD 40) 3000 178 (app dbQ .skip) (eG g) [] (ckE nmQ LitQ eS0 (st0 c)) fun _ => []
noncomputable def rKn : FR := codeO (ctxD 40) 3000 178 (app dbP .skip) u178 [] (ckE (fun _ _ => []) 0 u178 []) fun _ => []
theorem dbP_s : strip (app dbP .skip) = app dbP .skip := by kernel_rfl
theorem dbQ_s : strip (app dbQ .skip) = app dbQ .skip := by kernel_rfl
theorem dbP_c : (chk (app dbP .skip) ones178).isSome = true := by kernel_rfl
theorem dbQ_c : (chk (app dbQ .skip) (ones178 ^^^ 1)).map (fun outs => exD outs .normal &&& LitQ) = some 0 := by kernel_rfl
theorem dbP_w : wrt (app dbP .skip) &&& 7 = 0 := by kernel_rfl
theorem dbQ_w : wrt (app dbQ .skip) &&& 6 = 0 := by kernel_rfl
theorem dbQ_bit {t : Nat} (ht : t < 178) : (ones178 ^^^ 1).testBit t = false → t = 0 := by
  have key : ∀ t, t < 178 → (ones178 ^^^ 1).testBit t = false → t = 0 := by decide +kernel
  exact key t ht
theorem ones_bit {t : Nat} (ht : t < 178) : ones178.testBit t = true := by
  have key : ∀ t, t < 178 → ones178.testBit t = true := by decide +kernel
  exact key t ht
theorem bit7 {t : Nat} : (7 : Nat).testBit t = true → t = 0 ∨ t = 1 ∨ t = 2 := by
  intro h
  rw [show (7 : Nat) = 2 ^ 0 ||| (2 ^ 1 ||| 2 ^ 2) from rfl, Nat.testBit_or, Nat.testBit_or, Nat.testBit_two_pow, Nat.testBit_two_pow, Nat.testBit_two_pow] at h
  simp at h
  omega
theorem bit6 {t : Nat} : (6 : Nat).testBit t = true → t = 1 ∨ t = 2 := by
  intro h
  rw [show (6 : Nat) = 2 ^ 1 ||| 2 ^ 2 from rfl, Nat.testBit_or, Nat.testBit_two_pow, Nat.testBit_two_pow] at h
  simp at h
  omega
theorem litq_bits : LitQ.testBit 7 = true ∧ LitQ.testBit 8 = true ∧ LitQ.testBit 9 = true := by decide +kernel
def cN : List EOper := [o 33 (.move (.t 1)), o 34 (.bin .rem (.t 33) (.c (.int .u8 9))), o 35 (.conv .u32 (.t 34)), o 36 (.bin .add (.t 35) (.c (.int .u32 1))), o 10 (.move (.t 36))]
theorem dbN_eq : dbN = [.ops cN] := by kernel_rfl
theorem cN_run {X : Ctx} {e : Env} {H : Heap} (hl : e.length = 178) {r : Nat} (hr : r < 9) (h1 : e.getD 1 V.undef = modV .u8 9 r) : Runs X cN e H fun e1 H1 => H1 = H ∧ SameX 10 e1 e ∧ e1.getD 10 V.undef = wN (r + 1) := by
  have hrem : binE .rem (modV .u8 9 r) (.int .u8 9) = some (bN r) := by
    have key : ∀ r, r < 9 → binE .rem (modV .u8 9 r) (.int .u8 9) = some (bN r) := by
      intro r hr
      have : r = 0 ∨ r = 1 ∨ r = 2 ∨ r = 3 ∨ r = 4 ∨ r = 5 ∨ r = 6 ∨ r = 7 ∨ r = 8 := by omega
      rcases this with rfl | rfl | rfl | rfl | rfl | rfl | rfl | rfl | rfl <;> rfl
    exact key r hr
  have hw : IntKind.u32.wrap (Int.ofNat r) = Int.ofNat r := IntWalk.u32_in _ ⟨by simp, by simp; omega⟩
  have hadd : binE .add (wN r) (.int .u32 1) = some (wN (r + 1)) := by
    have : IntKind.u32.wrap ((r + 1 : Nat) : Int) = ((r + 1 : Nat) : Int) := IntWalk.u32_in _ (by omega)
    simp only [binE, wN, arithE, reduceCtorEq, or_self, if_false, if_true, Int.ofNat_eq_natCast]
    rw [show (r : Int) + 1 = ((r + 1 : Nat) : Int) by omega, this]
  refine .go (modV .u8 9 r) H ?_ (.go (bN r) H ?_ (.go (wN r) H ?_ (.go (wN (r + 1)) H ?_ (.go (wN (r + 1)) H ?_ (.nil ⟨rfl, ?same, ?_⟩)))))
  case same => repeat' (first | refine SameX.set ?_ (.inl (by decide)) | refine SameX.set ?_ (.inr rfl) | exact SameX.refl hl)
  case refine_3 => simp only [Env.put, evalOp, Opd.ev, getD_put, hl, List.length_set, Nat.reduceLT, bN, wN, hw]
  all_goals simp only [Env.put, evalOp, Opd.ev, getD_put, hl, List.length_set, Nat.reduceLT, h1, hrem, hadd, pure1, Option.map_some]
section
variable {S : Nat → Option ByteArray} {c : GP} {pv : V} {n : Nat}
theorem db_first (hkn : rKn = some (true, [])) {e0 : Env} (l0 : e0.length = 178) (hf : Firm 7 e0) : ∃ e01 L μ e1, evalCode (lawD 40) 3000 (app dbP .skip) e0 [] = some (.normal, e01, L) ∧ e1.length = 178 ∧ (∀ t, t < 3 → e1.getD t V.undef = e0.getD t V.undef) ∧ RenMv μ e1 [] e01 L := by
  obtain ⟨outs, hc⟩ := Option.isSome_iff_exists.1 dbP_c
  obtain ⟨e01, L, q1, μ, e1, q2, _, _, q5, q6⟩ := phaseE_ok (lawD_sim 40) (N := 178) (by simp [u178]) (by simp) dbP_s hc (Nat.and_zero _) dbP_w (Nat.and_zero _) hkn (agr_of l0 (by simp [u178]) fun t ht hD => by rw [ones_bit ht] at hD; simp at hD) hf
  exact ⟨e01, L, μ, e1, q1, q2.trans l0, fun t ht => q5 t (by omega) (by
    have : t = 0 ∨ t = 1 ∨ t = 2 := by omega
    rcases this with rfl | rfl | rfl <;> rfl), q6⟩
theorem firm_mv {v : V} (h : V.firm v = true) (μ : Mv) : V.mv μ v = some v := by
  cases v <;> first
    | rfl
    | (simp [V.firm] at h; done)
    | (have h : V.plainL _ = true := h; simp [V.mv, h])
theorem db_all (net : Net c) (hpk : Picks n pv) {g r : Nat} (hr : r < 9) (hkn : rKn = some (true, [])) (hbeg : rBeg c g = some (true, [])) (ask : ∀ i, 1 ≤ i → i ≤ 9 → AskOK c i) (fin : ∀ k, 1 ≤ k → k ≤ 9 → FinOK c k) :
    ∃ e' H', GoodE Tryz.prog S lit5.body ([modV .u8 4 g, modV .u8 9 r, pv] ++ List.replicate 175 V.undef) [] .ret e' H' ∧ e'.getD 6 V.undef = .bool true := by
  rw [db_body]
  generalize he0 : ([modV .u8 4 g, modV .u8 9 r, pv] ++ List.replicate 175 V.undef : Env) = e0
  have l0 : e0.length = 178 := by rw [← he0]; rfl
  have f0 : Firm 7 e0 := by
    intro t h μ
    rcases bit7 h with rfl | rfl | rfl
    · rw [← he0]; rfl
    · rw [← he0]; rfl
    · rw [← he0]; exact firm_mv hpk.firm μ
  obtain ⟨e01, L1, μ1, e1, q1, l1, k1, q6⟩ := db_first hkn l0 f0
  have k12 : e1.getD 2 V.undef = pv := (k1 2 (by decide)).trans (by rw [← he0]; rfl)
  have k11 : e1.getD 1 V.undef = modV .u8 9 r := (k1 1 (by decide)).trans (by rw [← he0]; rfl)
  have k10 : e1.getD 0 V.undef = modV .u8 4 g := (k1 0 (by decide)).trans (by rw [← he0]; rfl)
  -- not too many
  obtain ⟨e2, _, r1, rfl, r2, r3⟩ := (cL_run (X := lawD 40) (H := []) l1 k12 hpk.len).code (fuel := 3000)
  have gL : GoodE Tryz.prog S dbL e1 [] .normal e2 [] := good_seq (good_eval tryzMixed (lawD_ok 40) 3000 r1) (good_cond r3 (by
    rw [if_neg (by simp; exact hpk.le)]
    exact good_eval tryzMixed (lawD_ok 40) 3000 rfl))
  have s2 : ∀ t, t < 14 → e2.getD t V.undef = e1.getD t V.undef := fun t h => r2.2 t h (by omega)
  -- the first state
  obtain ⟨outs, hc, ho⟩ := Option.map_eq_some_iff.1 dbQ_c
  have hag : Agr (ones178 ^^^ 1) e2 (eG g) := agr_of r2.1 (by simp [eG]) fun t ht hD => by
    have := dbQ_bit ht hD
    subst this
    rw [s2 0 (by decide), k10]; rfl
  have f2 : Firm 6 e2 := by
    intro t h μ
    rcases bit6 h with rfl | rfl
    · rw [s2 1 (by decide), k11]; rfl
    · rw [s2 2 (by decide), k12]; exact firm_mv hpk.firm μ
  obtain ⟨e02, L2, p1, μ2, e3, p2, _, p4, p5, p6⟩ := phaseE_ok (lawD_sim 40) (N := 178) (by simp [eG]) (by simp) dbQ_s hc ho dbQ_w (by decide +kernel) hbeg hag f2
  have l3 : e3.length = 178 := p2.trans r2.1
  have lt : ∀ {t : Nat}, t < 178 → t < e2.length := fun h => by rw [r2.1]; exact h
  have k32 : e3.getD 2 V.undef = pv := (p5 2 (lt (by decide)) (by decide)).trans ((s2 2 (by decide)).trans k12)
  have k31 : e3.getD 1 V.undef = modV .u8 9 r := (p5 1 (lt (by decide)) (by decide)).trans ((s2 1 (by decide)).trans k11)
  have k37 : e3.getD 7 V.undef = .ptr 22 0 0 9 := (p4 7 (lt (by decide)) litq_bits.1).trans rfl
  have k38 : e3.getD 8 V.undef = .nils := (p4 8 (lt (by decide)) litq_bits.2.1).trans rfl
  have k39 : e3.getD 9 V.undef = iN 0 := (p4 9 (lt (by decide)) litq_bits.2.2).trans rfl
  obtain ⟨e4, _, u1, rfl, u2, u3⟩ := (cN_run (X := lawD 40) (H := st0 c) l3 hr k31).code (fuel := 3000)
  have z1 : evalCode (lawD 40) 3000 (.ops [o 11 (.move (.c (.int .u32 0)))]) e4 (st0 c) = some (.normal, e4.set 11 (.int .u32 0), st0 c) := rfl
  have hr5 : Rdy pv [] 0 (r + 1) 0 (e4.set 11 (.int .u32 0)) := by
    have g' : ∀ t, t ≠ 11 → (e4.set 11 (.int .u32 0)).getD t V.undef = e4.getD t V.undef := fun t ht => getD_put_ne ht
    exact ⟨by rw [List.length_set]; exact u2.1, (g' 2 (by decide)).trans ((u2.2 2 (by decide) (by decide)).trans k32), (g' 7 (by decide)).trans ((u2.2 7 (by decide) (by decide)).trans k37), (g' 8 (by decide)).trans ((u2.2 8 (by decide) (by decide)).trans k38),
      (g' 9 (by decide)).trans ((u2.2 9 (by decide) (by decide)).trans k39), (g' 10 (by decide)).trans u3, getD_put (by rw [u2.1]; decide)⟩
  obtain ⟨e5, H5, e', H', w1, w2, w3⟩ := all_rounds (S := S) net hpk (k := r + 1) (by omega) (by omega) ask (fin (r + 1) (by omega) (by omega)) hr5
  have gN : evalCode (lawD 40) 3000 (app dbN .skip) e3 (st0 c) = some (.normal, e4, st0 c) := by
    rw [dbN_eq]
    show evalCode (lawD 40) 3000 (.seq (.ops cN) .skip) e3 (st0 c) = _
    rw [code_seq u1]
    rfl
  exact ⟨e', H', good_app tryzMixed (lawD_ok 40) dbP q1 (good_inM q6 (good_seq gL (good_app tryzMixed (lawD_ok 40) dbQ p1 (good_inM p6 (good_app tryzMixed (lawD_ok 40) dbN gN (good_seq (good_seq (good_eval tryzMixed (lawD_ok 40) 3000 z1) w1) w2)))))), w3⟩
end
end Go.PE
