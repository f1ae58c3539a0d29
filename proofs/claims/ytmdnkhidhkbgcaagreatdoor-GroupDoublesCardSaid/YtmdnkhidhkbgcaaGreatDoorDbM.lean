/- GroupDoubles: what each piece of its loop comes to, from one shape of the heap to the next. -/
import Derived.Test.YtmdnkhidhkbgcaaGreatDoorDbH
namespace Go.PE
open Go.Proofs Go.RowKit
set_option maxRecDepth 100000
theorem law_take (args : List V) (H : Heap) : lawD 40 28 args H = evalFunc (lawD 39) 3000 ⟨2, 65, [], takeCode 13 zM⟩ args H := by
  have h1 : TNx 28 args = none := rfl
  have h2 : G4 28 args (H[·]?) H.length = none := rfl
  have h3 : litF 28 = some ⟨2, 65, [], takeCode 13 zM⟩ := litF_at28.trans (congrArg some db_take)
  show ctxE litF (shortE TNx G4) 3000 (39 + 1) 28 args H = _
  simp only [ctxE, shortE, h1, heapE, h2, Option.map_none, h3]
  rfl
structure FxOK (fx : Heap) : Prop where
  len : fx.length = 22
  own : ∀ b, b < 22 → ∃ x, fx[b]? = some x ∧ Box.own 22 x = true
theorem renS {fx H : Heap} (hfx : FxOK fx) {rb ra rt : Option (Nat × Nat)} {gv bv av tv : V} {bag all told : List (List V)} {e2 e : Env} (pads : Nat) (h1 : ∀ b, b < 22 → H[b]? = fx[b]?)
    (h2 : H[22]? = some (.cells (wCells gv bv tv) 0 0)) (hg : V.firm gv = true) (hb : Holds (nmv (21, 0, 0) rb ra rt) (fun _ => false) H bv bag rb) (ha : Holds (nmv (21, 0, 0) rb ra rt) (fun _ => false) H av all ra) (ht : Holds (nmv (21, 0, 0) rb ra rt) (fun _ => false) H tv told rt)
    (hd : Apart (21, 0, 0) rb ra rt) (he : V.fzL (nmv (21, 0, 0) rb ra rt) (H[·]?) (fun _ => false) e2 e = true) : RenFz (nmv (21, 0, 0) rb ra rt) (fun _ => false) e2 (std fx gv bag all told pads) e H :=
  ren_std hfx.len (fun b hb => by
    obtain ⟨x, q1, q2⟩ := hfx.own b hb
    have hn := nmv0 (rb := rb) (ra := ra) (rt := rt) hb
    exact ⟨b, x, x, hn.1, q1, (h1 b hb).trans q1, own_fzB (n := 22) (fun b hb => nmv0 hb) hn.2.1 hn.2.2 q2⟩) h2 hg hb ha ht hd (fun _ _ _ => rfl) he
structure Rdy (pv : V) (all : List (List V)) (a k i : Nat) (e : Env) : Prop where
  len : e.length = 178
  h2 : e.getD 2 V.undef = pv
  h7 : e.getD 7 V.undef = .ptr 22 0 0 9
  h8 : e.getD 8 V.undef = slV 24 all
  h9 : e.getD 9 V.undef = iN a
  h10 : e.getD 10 V.undef = wN k
  h11 : e.getD 11 V.undef = wN i
theorem Rdy.same {pv : V} {all : List (List V)} {a k i : Nat} {e e1 : Env} (h : Rdy pv all a k i e) (hs : SameX 177 e1 e) : Rdy pv all a k i e1 :=
  ⟨hs.1, by rw [hs.2 2 (by decide) (by decide)]; exact h.h2, by rw [hs.2 7 (by decide) (by decide)]; exact h.h7, by rw [hs.2 8 (by decide) (by decide)]; exact h.h8, by rw [hs.2 9 (by decide) (by decide)]; exact h.h9, by rw [hs.2 10 (by decide) (by decide)]; exact h.h10, by rw [hs.2 11 (by decide) (by decide)]; exact h.h11⟩
def cln (e : Env) (av : V) : Env := (List.range 178).map fun t => if t = 8 then av else if t = 2 ∨ t = 7 ∨ t = 9 ∨ t = 10 ∨ t = 11 ∨ t = 12 then e.getD t V.undef else V.cov (e.getD t V.undef)
theorem cln_get {e : Env} {av : V} {t : Nat} (ht : t < 178) : (cln e av).getD t V.undef = if t = 8 then av else if t = 2 ∨ t = 7 ∨ t = 9 ∨ t = 10 ∨ t = 11 ∨ t = 12 then e.getD t V.undef else V.cov (e.getD t V.undef) := by
  unfold cln
  rw [List.getD_eq_getElem?_getD, List.getElem?_map, List.getElem?_range ht]
  rfl
theorem cln_fz {μ : Mv} {g : Nat → Option Box} {F : Nat → Bool} {pv av : V} {a k i j : Nat} {e : Env} (hl : e.length = 178) (hp : V.firm pv = true) (h2 : e.getD 2 V.undef = pv) (h7 : e.getD 7 V.undef = .ptr 22 0 0 9) (h9 : e.getD 9 V.undef = iN a) (h10 : e.getD 10 V.undef = wN k)
    (h11 : e.getD 11 V.undef = wN i) (h12 : e.getD 12 V.undef = iN j) (hμ : μ.π 22 = some 22 ∧ μ.σ 22 = 0 ∧ μ.κ 22 = 0) (h8 : V.fz μ g F av (e.getD 8 V.undef) = true) : V.fzL μ g F (cln e av) e = true := by
  refine fzL_of _ _ (by simp [cln, hl]) fun t ht => ?_
  rw [cln_get (by omega)]
  split
  · rename_i h; subst h; exact h8
  · split
    · rename_i h
      rcases h with rfl | rfl | rfl | rfl | rfl | rfl
      · rw [h2]; exact firm_fz hp
      · rw [h7]
        refine fz_of_mv (v1 := .ptr 22 0 0 9) ?_ (le_all _) (by simp)
        simp [V.mv, hμ.1, hμ.2.1, hμ.2.2]
      · rw [h9]; exact firm_fz rfl
      · rw [h10]; exact firm_fz rfl
      · rw [h11]; exact firm_fz rfl
      · rw [h12]; exact firm_fz rfl
    · exact cov_fz _
theorem cln_rdy {pv : V} {all2 : List (List V)} {a k i : Nat} {e : Env} (h2 : e.getD 2 V.undef = pv) (h7 : e.getD 7 V.undef = .ptr 22 0 0 9) (h9 : e.getD 9 V.undef = iN a) (h10 : e.getD 10 V.undef = wN k) (h11 : e.getD 11 V.undef = wN i) : Rdy pv all2 a k i (cln e (slV 24 all2)) :=
  ⟨by simp [cln], by rw [cln_get (by decide)]; exact h2, by rw [cln_get (by decide)]; exact h7, by rw [cln_get (by decide)]; rfl, by rw [cln_get (by decide)]; exact h9, by rw [cln_get (by decide)]; exact h10, by rw [cln_get (by decide)]; exact h11⟩
theorem cln_12 {e : Env} {av : V} : (cln e av).getD 12 V.undef = e.getD 12 V.undef := by rw [cln_get (by decide)]; rfl
theorem flat_row : ∀ {l : List (List V)}, Rows l → ∀ {k : Nat} {x : List V}, l[k]? = some x → (l.flatten.drop (k * 131)).take 131 = x
  | [], _, k, x, h => by simp at h
  | y :: l, hl, 0, x, h => by
    simp only [List.getElem?_cons_zero, Option.some.injEq] at h; subst h
    rw [List.flatten_cons, Nat.zero_mul, List.drop_zero, ← (hl y (List.mem_cons_self ..)).1, List.take_left]
  | y :: l, hl, k + 1, x, h => by
    have hy := (hl y (List.mem_cons_self ..)).1
    rw [List.flatten_cons, show (k + 1) * 131 = y.length + k * 131 by rw [hy]; omega, List.drop_append]
    rw [List.drop_eq_nil_of_le (by omega), Nat.add_sub_cancel_left, List.nil_append]
    exact flat_row hl.tail (by simpa using h)
section
variable {S : Nat → Option ByteArray} {fx : Heap} {gv : V} {bag all told : List (List V)} {pads : Nat} {e : Env} {pv : V} {a k i j : Nat}
theorem if_pair {l : List (List V)} {c p v : Nat} (h : (if l = [] then none else some (c, 0) : Option (Nat × Nat)) = some (p, v)) : p = c := by
  split at h <;> simp at h
  exact h.1.symm
theorem apart3 {b all told : List (List V)} {x : Nat} (hx : x = 23 ∨ x = 27) : Apart (21, 0, 0) (if b = [] then none else some (x, 0)) (if all = [] then none else some (24, 0)) (if told = [] then none else some (25, 0)) :=
  ⟨.inl rfl, fun p v h => by have := if_pair h; show 23 ≤ p ∧ p ≠ 21; omega, fun p v h => by have := if_pair h; show 23 ≤ p ∧ p ≠ 21; omega, fun p v h => by have := if_pair h; show 23 ≤ p ∧ p ≠ 21; omega,
    fun p v q u h1 h2 => by have := if_pair h1; have := if_pair h2; omega, fun p v q u h1 h2 => by have := if_pair h1; have := if_pair h2; omega, fun p v q u h1 h2 => by have := if_pair h1; have := if_pair h2; omega⟩
theorem slV_names {μ : Mv} {g : Nat → Option Box} {F : Nat → Bool} {all : List (List V)} (h : all ≠ [] → μ.π 24 = some 24 ∧ μ.σ 24 = 0 ∧ μ.κ 24 = 0) : V.fz μ g F (slV 24 all) (slV 24 all) = true := by
  cases all with
  | nil => exact firm_fz rfl
  | cons x l =>
    obtain ⟨h1, h2, h3⟩ := h (by simp)
    refine fz_of_mv (v1 := slV 24 (x :: l)) ?_ (le_all _) (by simp [slV])
    simp [slV, V.mv, h1, h2, h3]
theorem repad (hfx : FxOK fx) (hg : V.firm gv = true) (hb : Rows bag) (ha : Rows all) (ht : Rows told) (hp : V.firm pv = true) (hr : Rdy pv all a k i e) (h12 : e.getD 12 V.undef = iN j) (pads2 : Nat) :
    ∃ μ F, RenFz μ F (cln e (slV 24 all)) (std fx gv bag all told pads2) e (std fx gv bag all told pads) := by
  refine ⟨_, _, renS hfx (rb := if bag = [] then none else some (23, 0)) (ra := if all = [] then none else some (24, 0)) (rt := if told = [] then none else some (25, 0)) (bv := slV 23 bag) (av := slV 24 all) (tv := slV 25 told) pads2 (fun b hb => std_lo hfx.len hb) (std_w hfx.len) hg
    (Holds.same hb (std_bag hfx.len)) (Holds.same ha (std_all hfx.len)) (Holds.same ht (std_told hfx.len)) (apart3 (.inl rfl)) (cln_fz hr.len hp hr.h2 hr.h7 hr.h9 hr.h10 hr.h11 h12 ⟨rfl, rfl, rfl⟩ ?_)⟩
  rw [hr.h8]
  exact slV_names fun h => ⟨by show (if all = [] then none else some (24, 0) : Option (Nat × Nat)).map (·.1) = _; rw [if_neg h]; rfl, rfl, by show (match (if all = [] then none else some (24, 0) : Option (Nat × Nat)) with | some p => p.2 | none => 0) = 0; rw [if_neg h]⟩
theorem push_one {H : Heap} {l : List (List V)} {x : List V} {bx : Nat} (hb : H[bx]? = some (.cells l.flatten 0 0)) (hl : Rows l) (hx : MsgOK x) (hn : l.length < 90000) :
    ∃ v' H', ∃ rc : Nat × Nat, appendE 131 1400 (slV bx l) (.slice H.length 0 0 1 131 (some 1)) (H ++ [Box.cells x 0 0]) = some (v', H') ∧ (∀ b, b < H.length → b ≠ bx → H'[b]? = H[b]?) ∧ (rc.1 = bx ∨ H.length ≤ rc.1) ∧
      v' = .slice rc.1 rc.2 0 (l ++ [x]).length 131 none ∧ H'[rc.1]? = some (.cells (l ++ [x]).flatten rc.2 0) := by
  have hbl := (List.getElem?_eq_some_iff.1 hb).1
  have hone := firm_ones hx.2
  have g0 : ∀ b, b < H.length → (H ++ [Box.cells x 0 0])[b]? = H[b]? := fun b hb => List.getElem?_append_left hb
  have hlast : (H ++ [Box.cells x 0 0])[H.length]? = some (.cells x 0 0) := by rw [List.getElem?_append_right (Nat.le_refl _), Nat.sub_self]; rfl
  have hfirst : firstE 131 1 (.slice H.length 0 0 1 131 (some 1)) (H ++ [Box.cells x 0 0]) = some x := by
    have := first_row (es := 131) (k := 1) (d := 0) (n := 1) (c := some 1) hlast (Nat.le_refl _) (Nat.le_refl _) (by rw [hx.1]; decide)
    simp only [Nat.zero_mul, Nat.zero_add, Nat.one_mul, List.drop_zero] at this
    rw [this, ← hx.1, List.take_length]
  by_cases h0 : l = []
  · subst h0
    have happ := append_new (es := 131) (bytes := 1400) (k := 1) (H := H ++ [Box.cells x 0 0]) rfl (by decide) hfirst hone (by rw [hx.1]) (room_ok (by decide))
    refine ⟨_, _, ((H ++ [Box.cells x 0 0]).length, 0), happ, fun b hb _ => ?_, .inr (by simp), rfl, ?_⟩
    · rw [List.getElem?_append_left (by simp; omega)]; exact g0 b (by omega)
    · rw [List.getElem?_append_right (Nat.le_refl _), Nat.sub_self]; simp
  · have h24 : (H ++ [Box.cells x 0 0])[bx]? = some (.cells l.flatten 0 0) := (g0 bx hbl).trans hb
    have happ := append_row (es := 131) (bytes := 1400) (k := 1) h24 (Nat.le_refl _) (flat_len hl) rfl (by decide) hfirst hone (by rw [hx.1]) (room_ok (by omega))
    rw [slV_cons h0]
    refine ⟨_, _, (bx, 1), happ, fun b hb h => ?_, .inl rfl, by simp [List.length_append], ?_⟩
    · rw [List.getElem?_set_ne (by omega)]; exact g0 b (by omega)
    · rw [List.getElem?_set_self (by simp; omega)]; simp
theorem good_A (hfx : FxOK fx) (hg : V.firm gv = true) {x : List V} (hb : Rows (x :: bag)) (ha : Rows all) (ht : Rows told) (hp : V.firm pv = true) (hr : Rdy pv all a k i e) (h12 : e.getD 12 V.undef = iN j) (hn : all.length < 90000) (pads2 : Nat) :
    ∃ e', GoodE Tryz.prog S (.ops oA) e (std fx gv (x :: bag) all told pads) .normal e' (std fx gv (x :: bag) (all ++ [x]) told pads2) ∧ Rdy pv (all ++ [x]) a k i e' ∧ e'.getD 12 V.undef = iN j := by
  have hx := hb x (List.mem_cons_self ..)
  have hlen := std_len (gv := gv) (bag := x :: bag) (all := all) (told := told) (pads := pads) hfx.len
  generalize hH : std fx gv (x :: bag) all told pads = H at hlen ⊢
  have gl : ∀ b, b < 22 → H[b]? = fx[b]? := fun b hb => by rw [← hH]; exact std_lo hfx.len hb
  have g22 : H[22]? = some (.cells (wCells gv (slV 23 (x :: bag)) (slV 25 told)) 0 0) := by rw [← hH]; exact std_w hfx.len
  have g23 : H[23]? = some (.cells (x :: bag).flatten 0 0) := by rw [← hH]; exact std_bag hfx.len
  have g24 : H[24]? = some (.cells all.flatten 0 0) := by rw [← hH]; exact std_all hfx.len
  have g25 : H[25]? = some (.cells told.flatten 0 0) := by rw [← hH]; exact std_told hfx.len
  have hone := firm_ones hx.2
  obtain ⟨av', H', rc, happ, hk', hrc', hav, hrow⟩ := push_one g24 ha hx hn
  have hk : ∀ b, b < 26 → b ≠ 24 → H'[b]? = H[b]? := fun b hb h => hk' b (by omega) h
  have hrc : rc.1 = 24 ∨ 26 ≤ rc.1 := by omega
  obtain ⟨e1, H1, r1, rfl, r2, r3⟩ := (oA_run (X := lawD 39) hr.len hr.h7 hr.h8 g22 rfl (by simp) (rest := bag.flatten) (x := x) (by rw [g23]; rfl) hx.1 hone happ).code (fuel := 3000)
  have gd : ∀ t, t < 14 → t ≠ 8 → e1.getD t V.undef = e.getD t V.undef := r2.2
  have ren : RenFz (nmv (21, 0, 0) (some (23, 0)) (some rc) (if told = [] then none else some (25, 0))) (fun _ => false) (cln e1 (slV 24 (all ++ [x]))) (std fx gv (x :: bag) (all ++ [x]) told pads2) e1 H1 := by
    refine renS hfx (bv := slV 23 (x :: bag)) (av := av') (tv := slV 25 told) pads2 (fun b hb => (hk b (by omega) (by omega)).trans (gl b hb)) ((hk 22 (by decide) (by decide)).trans g22) hg ?_ ?_ ?_ ⟨.inl rfl, ?_, ?_, ?_, ?_, ?_, ?_⟩ ?_
    · have := Holds.same (μ := nmv (21, 0, 0) (some (23, 0)) (some rc) (if told = [] then none else some (25, 0))) (F := fun _ => false) hb ((hk 23 (by decide) (by decide)).trans g23)
      simpa using this
    · exact .inr ⟨by simp, rc.1, rc.2, 0, _, rfl, hav, hrow, Nat.zero_le _, firmL_fz (flat_firm (ha.app (.one hx)))⟩
    · exact Holds.same ht ((hk 25 (by decide) (by decide)).trans g25)
    · intro p v h; simp at h; show 23 ≤ p ∧ p ≠ 21; omega
    · intro p v h; simp at h; subst h; show 23 ≤ p ∧ p ≠ 21; simp at hrc; omega
    · intro p v h; have := if_pair h; show 23 ≤ p ∧ p ≠ 21; omega
    · intro p v q u h1 h2; simp at h1 h2; subst h2; simp at hrc; omega
    · intro p v q u h1 h2; simp at h1; have := if_pair h2; omega
    · intro p v q u h1 h2; simp at h1; subst h1; have := if_pair h2; simp at hrc; omega
    · refine cln_fz r2.1 hp ((gd 2 (by decide) (by decide)).trans hr.h2) ((gd 7 (by decide) (by decide)).trans hr.h7) ((gd 9 (by decide) (by decide)).trans hr.h9) ((gd 10 (by decide) (by decide)).trans hr.h10) ((gd 11 (by decide) (by decide)).trans hr.h11) ((gd 12 (by decide) (by decide)).trans h12) ⟨rfl, rfl, rfl⟩ ?_
      rw [r3, hav, slV_cons (by simp)]
      refine fz_of_mv (v1 := .slice rc.1 rc.2 0 (all ++ [x]).length 131 none) ?_ (le_all _) (by simp)
      simp [V.mv, nmv, Nat.blt, Nat.beq, Nat.ble]
  exact ⟨_, good_outF (good_eval tryzMixed (lawD_ok 39) 3000 r1) ren, cln_rdy ((gd 2 (by decide) (by decide)).trans hr.h2) ((gd 7 (by decide) (by decide)).trans hr.h7) ((gd 9 (by decide) (by decide)).trans hr.h9) ((gd 10 (by decide) (by decide)).trans hr.h10) ((gd 11 (by decide) (by decide)).trans hr.h11), by rw [cln_12, gd 12 (by decide) (by decide), h12]⟩
theorem take_heap (hfx : FxOK fx) {x : List V} (hb : Rows (x :: bag)) : ∃ bv, (takeHeap (std fx gv (x :: bag) all told (if bag = [] then 1 else 0)) 22 (bag.length + 1) (wCells gv (slV 23 (x :: bag)) (slV 25 told)) x bag.flatten).length = 28 ∧
    (bagLess (std fx gv (x :: bag) all told (if bag = [] then 1 else 0) ++ [.cells x 0 0]) (bag.length + 1) bag.flatten).1 = bv ∧
    (∀ b, b < 26 → b ≠ 22 → (takeHeap (std fx gv (x :: bag) all told (if bag = [] then 1 else 0)) 22 (bag.length + 1) (wCells gv (slV 23 (x :: bag)) (slV 25 told)) x bag.flatten)[b]? = (std fx gv (x :: bag) all told (if bag = [] then 1 else 0))[b]?) ∧
    (takeHeap (std fx gv (x :: bag) all told (if bag = [] then 1 else 0)) 22 (bag.length + 1) (wCells gv (slV 23 (x :: bag)) (slV 25 told)) x bag.flatten)[22]? = some (.cells (wCells gv bv (slV 25 told)) 0 0) ∧
    ((bag = [] ∧ bv = .nils) ∨ (bag ≠ [] ∧ ∃ b, b = 27 ∧ bv = .slice b 0 0 bag.length 131 none ∧ (takeHeap (std fx gv (x :: bag) all told (if bag = [] then 1 else 0)) 22 (bag.length + 1) (wCells gv (slV 23 (x :: bag)) (slV 25 told)) x bag.flatten)[b]? = some (.cells bag.flatten 0 0))) := by
  have hlen := std_len (gv := gv) (bag := x :: bag) (all := all) (told := told) (pads := if bag = [] then 1 else 0) hfx.len
  generalize std fx gv (x :: bag) all told (if bag = [] then 1 else 0) = H at hlen ⊢
  by_cases h0 : bag = []
  · rw [if_pos h0] at hlen
    subst h0
    refine ⟨.nils, by simp [takeHeap, bagLess, hlen], by simp [bagLess], fun b hb hw => ?_, ?_, .inl ⟨rfl, rfl⟩⟩
    · simp only [takeHeap, bagLess, List.length_nil, Nat.zero_add, if_true]
      rw [List.getElem?_set_ne (by omega), List.getElem?_append_left (by omega)]
    · simp only [takeHeap, bagLess, List.length_nil, Nat.zero_add, if_true]
      rw [List.getElem?_set_self (by simp; omega)]
      rfl
  · rw [if_neg h0] at hlen
    have hn : ¬ bag.length + 1 = 1 := fun h => h0 (List.eq_nil_of_length_eq_zero (by omega))
    refine ⟨.slice 27 0 0 bag.length 131 none, ?_, ?_, fun b hb hw => ?_, ?_, .inr ⟨h0, 27, rfl, rfl, ?_⟩⟩
    · simp only [takeHeap, bagLess, if_neg hn, List.length_set, List.length_append, hlen, List.length_singleton]
    · simp only [bagLess, if_neg hn, List.length_append, hlen, List.length_singleton, Nat.add_sub_cancel]
    · simp only [takeHeap, bagLess, if_neg hn]
      rw [List.getElem?_set_ne (by omega), List.getElem?_append_left (by simp; omega), List.getElem?_append_left (by omega)]
    · simp only [takeHeap, bagLess, if_neg hn]
      rw [List.getElem?_set_self (by simp; omega)]
      simp only [List.length_append, hlen, List.length_singleton, Nat.add_sub_cancel]
      rfl
    · simp only [takeHeap, bagLess, if_neg hn]
      rw [List.getElem?_set_ne (by decide), List.getElem?_append_right (by simp; omega)]
      simp [hlen]
theorem ptr_at {gv bv tv : V} {dst : Nat} (h1 : 10 ≤ dst) (h2 : dst < 15) : (wCells gv bv tv)[2 + (dst - 10)]? = some (.ptr (11 + (dst - 10)) 0 0 352) := by
  have h5 : dst = 10 ∨ dst = 11 ∨ dst = 12 ∨ dst = 13 ∨ dst = 14 := by omega
  rcases h5 with h | h | h | h | h <;> rw [h] <;> rfl
theorem oT_run {X : Ctx} {H H' : Heap} (hl : e.length = 178) (h7 : e.getD 7 V.undef = .ptr 22 0 0 9) (h : X 28 [.ptr 22 0 0 9, i64 0] H = some (.tup [], H')) : Runs X oT e H fun e1 H1 => H1 = H' ∧ SameX 177 e1 e := by
  refine .go (.ptr 22 0 0 9) H ?_ (.go (.tup []) H' ?_ (.nil ⟨rfl, ?same⟩))
  case same => repeat' (first | refine SameX.set ?_ (.inl (by decide)) | exact SameX.refl hl)
  · simp only [evalOp, Opd.ev, h7]
  · simp only [Env.put, evalOp, Opd.ev, List.map_cons, List.map_nil]
    rw [getD_put (by omega)]
    exact h
theorem good_T {fx2 : Heap} {zs : List (List V)} (hfx : FxOK fx) (hfx2 : FxOK fx2) (hg : V.firm gv = true) {x : List V} (hb : Rows (x :: bag)) (ha : Rows all) (ht : Rows told) (hp : V.firm pv = true) (hr : Rdy pv all a k i e) (h12 : e.getD 12 V.undef = iN j)
    {dst : Nat} (hto : x[2]? = some (bN dst)) (ht1 : 10 ≤ dst) (ht2 : dst < 15) (hroom : bag.length + zs.length < 90000)
    (hst : ∀ H : Heap, H.length = 28 → (∀ b, b < 22 → H[b]? = fx[b]?) → Stepped (lawD 39) 13 [.ptr (11 + (dst - 10)) 0 0 352, .ptr 0 0 0 7, .agg x] H fx2 zs) :
    ∃ e', GoodE Tryz.prog S (.ops oT) e (std fx gv (x :: bag) all told (if bag = [] then 1 else 0)) .normal e' (std fx2 gv (bag ++ zs) all told 1) ∧ Rdy pv all a k i e' ∧ e'.getD 12 V.undef = iN j := by
  have hx := hb x (List.mem_cons_self ..)
  obtain ⟨bv, t1, t2, t3, t4, t5⟩ := take_heap (gv := gv) (all := all) (told := told) hfx hb
  have hlo : ∀ b, b < 22 → (std fx gv (x :: bag) all told (if bag = [] then 1 else 0))[b]? = fx[b]? := fun b hb => std_lo hfx.len hb
  have hw := std_w (gv := gv) (bag := x :: bag) (all := all) (told := told) (pads := if bag = [] then 1 else 0) hfx.len
  have hbg := std_bag (gv := gv) (bag := x :: bag) (all := all) (told := told) (pads := if bag = [] then 1 else 0) hfx.len
  have hal := std_all (gv := gv) (bag := x :: bag) (all := all) (told := told) (pads := if bag = [] then 1 else 0) hfx.len
  have htd := std_told (gv := gv) (bag := x :: bag) (all := all) (told := told) (pads := if bag = [] then 1 else 0) hfx.len
  have hs := hst _ t1 fun b hb => (t3 b (by omega) (by omega)).trans (hlo b hb)
  obtain ⟨av, H1, bv', H2, g1, g2, g3, g4, g5, g6⟩ := grown hs t1 hfx2.len hg t4 (t5.imp id fun h => ⟨h.1, h.2.imp fun b hb => ⟨.inr hb.1, hb.2⟩⟩) ((t3 24 (by decide) (by decide)).trans hal) ((t3 25 (by decide) (by decide)).trans htd) hb.tail ha ht (by omega)
  have hz : zM.length = 131 := by decide
  have hzo : zM.all V.one = true := by decide
  have hcall := take_step (X := lawD 39) (fuel := 3000) (f := 13) (z := zM) (n := bag.length + 1) (x := x) (rest := bag.flatten) (dst := dst) (bv' := bv') (q := .ptr (11 + (dst - 10)) 0 0 352) (hp := .ptr 0 0 0 7) (av := av) (H1 := H1) (H2 := H2) hw rfl rfl (by omega) (by omega) hbg (Nat.le_refl _) hx.1 (firm_ones hx.2)
    (by rw [flat_len hb.tail, Nat.add_sub_cancel]) (flat_one hb.tail) hz hzo hto ht1 ht2 rfl (ptr_at ht1 ht2) g1 (by rw [t2]; exact g2) (by rw [t2]; exact g3) (by rw [t2]; exact g4) g5
  obtain ⟨e1, _, r1, rfl, r2⟩ := (oT_run (X := lawD 40) hr.len hr.h7 ((law_take _ _).trans hcall)).code (fuel := 3000)
  have hr1 := hr.same r2
  have h121 : e1.getD 12 V.undef = iN j := by rw [r2.2 12 (by decide) (by decide)]; exact h12
  obtain ⟨μ, F, ren⟩ := g6 e1 (cln e1 (slV 24 all)) 1 fun μ g F hn => cln_fz hr1.len hp hr1.h2 hr1.h7 hr1.h9 hr1.h10 hr1.h11 h121 hn.1 (by rw [hr1.h8]; exact slV_names hn.2)
  exact ⟨_, good_outF (good_eval tryzMixed (lawD_ok 40) 3000 r1) ren, cln_rdy hr1.h2 hr1.h7 hr1.h9 hr1.h10 hr1.h11, by rw [cln_12, h121]⟩
theorem good_Tc (hfx : FxOK fx) (hg : V.firm gv = true) {x : List V} (hb : Rows (x :: bag)) (ha : Rows all) (ht : Rows told) (hp : V.firm pv = true) (hr : Rdy pv all a k i e) (h12 : e.getD 12 V.undef = iN j)
    {dst : Nat} (hto : x[2]? = some (bN dst)) (ht1 : 20 ≤ dst) (hroom : bag.length < 90000) (htn : told.length < 90000) :
    ∃ e', GoodE Tryz.prog S (.ops oT) e (std fx gv (x :: bag) all told (if bag = [] then 1 else 0)) .normal e' (std fx gv bag all (told ++ [x]) 1) ∧ Rdy pv all a k i e' ∧ e'.getD 12 V.undef = iN j := by
  have hx := hb x (List.mem_cons_self ..)
  obtain ⟨bv, t1, t2, t3, t4, t5⟩ := take_heap (gv := gv) (all := all) (told := told) hfx hb
  have hlo : ∀ b, b < 22 → (std fx gv (x :: bag) all told (if bag = [] then 1 else 0))[b]? = fx[b]? := fun b hb => std_lo hfx.len hb
  have hw := std_w (gv := gv) (bag := x :: bag) (all := all) (told := told) (pads := if bag = [] then 1 else 0) hfx.len
  have hbg := std_bag (gv := gv) (bag := x :: bag) (all := all) (told := told) (pads := if bag = [] then 1 else 0) hfx.len
  have hal := std_all (gv := gv) (bag := x :: bag) (all := all) (told := told) (pads := if bag = [] then 1 else 0) hfx.len
  have htd := std_told (gv := gv) (bag := x :: bag) (all := all) (told := told) (pads := if bag = [] then 1 else 0) hfx.len
  have hz : zM.length = 131 := by decide
  have hzo : zM.all V.one = true := by decide
  have h25 := (t3 25 (by decide) (by decide)).trans htd
  obtain ⟨tv', H', rc, happ, hk, hrc, hav, hrow⟩ := push_one h25 ht hx htn
  have hc : tv'.cells = [tv'] ∧ V.one tv' = true := by rw [hav]; exact ⟨rfl, rfl⟩
  have hw' : H'[22]? = some (.cells (wCells gv bv (slV 25 told)) 0 0) := (hk 22 (by omega) (by decide)).trans t4
  have hcall := take_told (X := lawD 39) (fuel := 3000) (f := 13) (z := zM) (n := bag.length + 1) (x := x) (rest := bag.flatten) (dst := dst) (tv' := tv') (H' := H') hw rfl rfl (by omega) (by omega) hbg (Nat.le_refl _) hx.1 (firm_ones hx.2)
    (by rw [flat_len hb.tail, Nat.add_sub_cancel]) (flat_one hb.tail) hz hzo hto ht1 rfl happ (by rw [t2]; exact hw') hc
  rw [t2] at hcall
  obtain ⟨e1, _, r1, rfl, r2⟩ := (oT_run (X := lawD 40) hr.len hr.h7 ((law_take _ _).trans hcall)).code (fuel := 3000)
  have hr1 := hr.same r2
  have h121 : e1.getD 12 V.undef = iN j := by rw [r2.2 12 (by decide) (by decide)]; exact h12
  have hset : ((wCells gv (slV 23 (x :: bag)) (slV 25 told)).set 7 bv).set 8 tv' = wCells gv bv tv' := rfl
  rw [hset] at r1
  generalize hH3 : H'.set 22 (.cells (wCells gv bv tv') 0 0) = H3 at r1
  have hH'l : 28 ≤ H'.length := by
    by_cases h : 28 ≤ H'.length
    · exact h
    · have h27 := hk 27 (by omega) (by decide)
      rw [List.getElem?_eq_none (show H'.length ≤ 27 by omega)] at h27
      have := List.getElem?_eq_none_iff.1 h27.symm
      omega
  have g3 : ∀ b, b < 28 → b ≠ 22 → b ≠ 25 → H3[b]? = (takeHeap (std fx gv (x :: bag) all told (if bag = [] then 1 else 0)) 22 (bag.length + 1) (wCells gv (slV 23 (x :: bag)) (slV 25 told)) x bag.flatten)[b]? := fun b hb h2 h5 => by
    rw [← hH3, List.getElem?_set_ne (by omega)]
    exact hk b (by omega) h5
  have ren : RenFz (nmv (21, 0, 0) (if bag = [] then none else some (27, 0)) (if all = [] then none else some (24, 0)) (some rc)) (fun _ => false) (cln e1 (slV 24 all)) (std fx gv bag all (told ++ [x]) 1) e1 H3 := by
    refine renS hfx (bv := bv) (av := slV 24 all) (tv := tv') 1 (fun b hb => ?_) ?_ hg ?_ ?_ ?_ ⟨.inl rfl, ?_, ?_, ?_, ?_, ?_, ?_⟩ ?_
    · exact ((g3 b (by omega) (by omega) (by omega)).trans (t3 b (by omega) (by omega))).trans (hlo b hb)
    · rw [← hH3, List.getElem?_set_self (by omega)]
    · rcases t5 with ⟨rfl, rfl⟩ | ⟨h0, b, rfl, rfl, hbb⟩
      · exact .inl ⟨rfl, rfl, rfl⟩
      · rw [if_neg h0]
        exact .inr ⟨h0, 27, 0, 0, _, rfl, rfl, (g3 27 (by decide) (by decide) (by decide)).trans hbb, Nat.le_refl _, firmL_fz (flat_firm hb.tail)⟩
    · exact Holds.same ha (((g3 24 (by decide) (by decide) (by decide)).trans (t3 24 (by decide) (by decide))).trans hal)
    · refine .inr ⟨by simp, rc.1, rc.2, 0, _, rfl, hav, ?_, Nat.zero_le _, firmL_fz (flat_firm (ht.app (.one hx)))⟩
      rw [← hH3, List.getElem?_set_ne (by omega)]
      exact hrow
    · intro p v h; have := if_pair h; show 23 ≤ p ∧ p ≠ 21; omega
    · intro p v h; have := if_pair h; show 23 ≤ p ∧ p ≠ 21; omega
    · intro p v h; simp at h; subst h; show 23 ≤ p ∧ p ≠ 21; simp at hrc; omega
    · intro p v q u h1 h2; have := if_pair h1; have := if_pair h2; omega
    · intro p v q u h1 h2; have := if_pair h1; simp at h2; subst h2; simp at hrc; omega
    · intro p v q u h1 h2; have := if_pair h1; simp at h2; subst h2; simp at hrc; omega
    · refine cln_fz hr1.len hp hr1.h2 hr1.h7 hr1.h9 hr1.h10 hr1.h11 h121 ⟨rfl, rfl, rfl⟩ ?_
      rw [hr1.h8]
      exact slV_names fun h => ⟨by show (if all = [] then none else some (24, 0) : Option (Nat × Nat)).map (·.1) = _; rw [if_neg h]; rfl, rfl, by show (match (if all = [] then none else some (24, 0) : Option (Nat × Nat)) with | some p => p.2 | none => 0) = 0; rw [if_neg h]⟩
  exact ⟨_, good_outF (good_eval tryzMixed (lawD_ok 40) 3000 r1) ren, cln_rdy hr1.h2 hr1.h7 hr1.h9 hr1.h10 hr1.h11, by rw [cln_12, h121]⟩
theorem good_D {zs : List (List V)} (hfx : FxOK fx) (hg : V.firm gv = true) (hb : Rows bag) (ha : Rows all) (ht : Rows told) (hp : V.firm pv = true) (hr : Rdy pv all a k i e) (h12 : e.getD 12 V.undef = iN j) {n q : Nat} (hq : indexAddrSlE 1 pv (iN a) = some (.pptr [bN q])) (hq2 : q < 256)
    (hn : all.length = n) (h0 : 0 < n) {x : List V} (hx : all[q % n]? = some x) {dst : Nat} (hto : x[2]? = some (bN dst)) (hd : dst < 20 → 10 ≤ dst ∧ dst < 15) (hc : 20 ≤ dst → zs = []) (han : a < 90000) (hroom : bag.length + zs.length < 90000)
    (hst : dst < 20 → ∀ H : Heap, H.length = 28 → (∀ b, b < 22 → H[b]? = fx[b]?) → Stepped (lawD 39) 13 [.ptr (11 + (dst - 10)) 0 0 352, .ptr 0 0 0 7, .agg x] H fx zs) :
    ∃ e', GoodE Tryz.prog S dbD e (std fx gv bag all told 1) .normal e' (std fx gv (bag ++ zs) all told 1) ∧ Rdy pv all (a + 1) k i e' ∧ e'.getD 12 V.undef = iN j := by
  have hxm : MsgOK x := ha x (List.mem_of_getElem? hx)
  have hlen := std_len (gv := gv) (bag := bag) (all := all) (told := told) (pads := 1) hfx.len
  have hlo : ∀ b, b < 22 → (std fx gv bag all told 1)[b]? = fx[b]? := fun b hb => std_lo hfx.len hb
  have hw := std_w (gv := gv) (bag := bag) (all := all) (told := told) (pads := 1) hfx.len
  have hbg := std_bag (gv := gv) (bag := bag) (all := all) (told := told) (pads := 1) hfx.len
  have hal := std_all (gv := gv) (bag := bag) (all := all) (told := told) (pads := 1) hfx.len
  have htd := std_told (gv := gv) (bag := bag) (all := all) (told := told) (pads := 1) hfx.len
  generalize hH : std fx gv bag all told 1 = H at hlen hlo hw hbg hal htd ⊢
  have hm := Nat.mod_lt q h0
  have hrow : (all.flatten.drop (q % n * 131)).take 131 = x ∧ q % n * 131 + 131 ≤ all.flatten.length := by
    constructor
    · exact flat_row ha hx
    · rw [flat_len ha, hn]
      have : (q % n + 1) * 131 ≤ n * 131 := Nat.mul_le_mul_right _ hm
      omega
  have hne : all ≠ [] := fun h => by subst h; simp at hn; omega
  have h8 : e.getD 8 V.undef = .slice 24 0 0 n 131 none := by rw [hr.h8, slV_cons hne, hn]
  obtain ⟨e1, _, r1, rfl, r2, r3⟩ := (oD_run (X := lawD 39) hr.len h8 hr.h9 hr.h2 hq hq2 h0 hal hrow.2 hrow.1 (firm_ones hxm.2)).code (fuel := 3000)
  have gd1 : ∀ t, t < 13 → e1.getD t V.undef = e.getD t V.undef := fun t h => r2.2 t (by omega) (by omega)
  obtain ⟨e2, _, s1, rfl, s2, s3⟩ := (incI_run (X := lawD 39) (H := H ++ [.cells x 0 0]) (s := 9) (p := 94) (q := 95) r2.1 (by decide) (by decide) (by decide) (by decide) (by decide) (show a < 99999 by omega) ((gd1 9 (by decide)).trans hr.h9)).code (fuel := 3000)
  have gd2 : ∀ t, t < 13 → t ≠ 9 → e2.getD t V.undef = e.getD t V.undef := fun t h h9 => (s2.2 t (by omega) h9).trans (gd1 t h)
  have h13 : e2.getD 13 V.undef = .ptr H.length 0 0 131 := (s2.2 13 (by decide) (by decide)).trans r3
  have hlast : (H ++ [Box.cells x 0 0])[H.length]? = some (.cells x 0 0) := by rw [List.getElem?_append_right (Nat.le_refl _), Nat.sub_self]; rfl
  have glo : ∀ b, b < 27 → (H ++ [Box.cells x 0 0])[b]? = H[b]? := fun b hb => List.getElem?_append_left (by omega)
  obtain ⟨e3, _, u1, rfl, u2, u3⟩ := (c98_run (X := lawD 39) s2.1 h13 hlast hto).code (fuel := 3000)
  have gd3 : ∀ t, t < 13 → t ≠ 9 → e3.getD t V.undef = e.getD t V.undef := fun t h h9 => (u2.2 t (by omega) (by omega)).trans (gd2 t h h9)
  have h93 : e3.getD 9 V.undef = iN (a + 1) := (u2.2 9 (by decide) (by decide)).trans s3
  have h133 : e3.getD 13 V.undef = .ptr H.length 0 0 131 := (u2.2 13 (by decide) (by decide)).trans h13
  have hr3 : Rdy pv all (a + 1) k i e3 := ⟨u2.1, (gd3 2 (by decide) (by decide)).trans hr.h2, (gd3 7 (by decide) (by decide)).trans hr.h7, (gd3 8 (by decide) (by decide)).trans hr.h8, h93, (gd3 10 (by decide) (by decide)).trans hr.h10, (gd3 11 (by decide) (by decide)).trans hr.h11⟩
  have h123 : e3.getD 12 V.undef = iN j := (gd3 12 (by decide) (by decide)).trans h12
  have names : ∀ {e4 : Env}, SameX 177 e4 e3 → ∀ μ g F, EnvNames all μ → V.fzL μ g F (cln e4 (slV 24 all)) e4 = true := fun {e4} h4 μ g F hn => by
    have hr4 := hr3.same h4
    exact cln_fz hr4.len hp hr4.h2 hr4.h7 hr4.h9 hr4.h10 hr4.h11 ((h4.2 12 (by decide) (by decide)).trans h123) hn.1 (by rw [hr4.h8]; exact slV_names hn.2)
  have head : ∀ {e4 e5 : Env} {H4 : Heap} {w : ECode}, (decide (dst < 20) = true → w = .draw dE) → (decide (dst < 20) = false → w = .skip) → GoodE Tryz.prog S w e3 (H ++ [.cells x 0 0]) .normal e4 H4 → (∃ μ F, RenFz μ F e5 (std fx gv (bag ++ zs) all told 1) e4 H4) → GoodE Tryz.prog S dbD e H .normal e5 (std fx gv (bag ++ zs) all told 1) := by
    intro e4 e5 H4 w w1 w2 hgw hren
    obtain ⟨μ, F, ren⟩ := hren
    refine good_seq (good_eval tryzMixed (lawD_ok 39) 3000 r1) (good_seq (good_eval tryzMixed (lawD_ok 39) 3000 s1) (good_seq (good_eval tryzMixed (lawD_ok 39) 3000 u1) (good_outF (good_cond u3 ?_) ren)))
    cases hd : decide (dst < 20) with
    | true => have := w1 hd; subst this; exact hgw
    | false => have := w2 hd; subst this; exact hgw
  by_cases hlt : dst < 20
  · obtain ⟨d1, d2⟩ := hd hlt
    have hs := hst hlt (H ++ [.cells x 0 0]) (by simp [hlen]) fun b hb => (glo b (by omega)).trans (hlo b hb)
    have hbv : (bag = [] ∧ slV 23 bag = .nils) ∨ (bag ≠ [] ∧ ∃ b, (b = 23 ∨ b = 27) ∧ slV 23 bag = .slice b 0 0 bag.length 131 none ∧ (H ++ [Box.cells x 0 0])[b]? = some (.cells bag.flatten 0 0)) := by
      by_cases hb0 : bag = []
      · exact .inl ⟨hb0, by rw [hb0]; rfl⟩
      · exact .inr ⟨hb0, 23, .inl rfl, slV_cons hb0, (glo 23 (by decide)).trans hbg⟩
    obtain ⟨av, H1, bv', H2, g1, g2, g3, g4, g5, g6⟩ := grown hs (by simp [hlen]) hfx.len hg ((glo 22 (by decide)).trans hw) hbv ((glo 24 (by decide)).trans hal) ((glo 25 (by decide)).trans htd) hb ha ht (by omega)
    obtain ⟨e4, _, v1, rfl, v2⟩ := (dE_run (X := lawD 39) hr3.len hr3.h7 h133 hlast hxm.1 hto d1 d2 ((glo 22 (by decide)).trans hw) rfl rfl rfl (ptr_at d1 d2) g1 g2 g3 g4 g5).code (fuel := 3000)
    have hr4 := hr3.same v2
    refine ⟨_, head (fun _ => rfl) (fun h => by simp at h; omega) (good_eval tryzMixed (lawD_ok 39) 3000 v1) (g6 e4 (cln e4 (slV 24 all)) 1 (names v2)), cln_rdy hr4.h2 hr4.h7 hr4.h9 hr4.h10 hr4.h11, ?_⟩
    rw [cln_12, v2.2 12 (by decide) (by decide), h123]
  · have hz := hc (by omega)
    subst hz
    have sk : GoodE Tryz.prog S .skip e3 (H ++ [.cells x 0 0]) .normal e3 (H ++ [.cells x 0 0]) := good_eval tryzMixed (lawD_ok 39) 3000 rfl
    refine ⟨_, head (fun h => by simp at h; omega) (fun _ => rfl) sk ⟨_, _, renS hfx (rb := if bag = [] then none else some (23, 0)) (ra := if all = [] then none else some (24, 0)) (rt := if told = [] then none else some (25, 0)) (bv := slV 23 bag) (av := slV 24 all) (tv := slV 25 told) 1 (fun b hb => (glo b (by omega)).trans (hlo b hb)) ((glo 22 (by decide)).trans hw) hg
      (by rw [List.append_nil]; exact Holds.same hb ((glo 23 (by decide)).trans hbg)) (Holds.same ha ((glo 24 (by decide)).trans hal)) (Holds.same ht ((glo 25 (by decide)).trans htd)) (apart3 (.inl rfl)) (names ⟨hr3.len, fun _ _ _ => rfl⟩ _ _ _ ⟨⟨rfl, rfl, rfl⟩, fun h => ⟨by show (if all = [] then none else some (24, 0) : Option (Nat × Nat)).map (·.1) = _; rw [if_neg h]; rfl, rfl, by show (match (if all = [] then none else some (24, 0) : Option (Nat × Nat)) with | some p => p.2 | none => 0) = 0; rw [if_neg h]⟩⟩)⟩,
      cln_rdy hr3.h2 hr3.h7 hr3.h9 hr3.h10 hr3.h11, by rw [cln_12, h123]⟩
end
end Go.PE
