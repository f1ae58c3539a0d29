/- GroupDoubles: from what the kernel reckons to what must be known of a group. -/
import Derived.Test.YtmdnkhidhkbgcaaGreatDoorDbO
namespace Go.PE
open Go.Proofs Go.RowKit
set_option maxRecDepth 100000
def vsOf (H : Heap) (b : Nat) : Box := match H[b]? with | some x => x | none => .cells [] 0 0
theorem hist_at {c : GP} {p b : Nat} (h : b < 11) : (fx c p)[b]? = hist[b]? := List.getElem?_append_left h
theorem fx_at {c : GP} {p j : Nat} : (fx c p)[11 + j]? = ([Box.cells (grpC c 0 p) 0 0, .cells (grpC c 1 p) 0 0, .cells (grpC c 2 p) 0 0, .cells (grpC c 3 p) 0 0, .cells (grpC c 4 p) 0 0] ++ [actB c, actB c, actB c, actB c, actB c, waitB c p])[j]? := by
  unfold fx
  rw [List.getElem?_append_right (by show hist.length ≤ 11 + j; show 11 ≤ 11 + j; omega)]
  congr 1
  show 11 + j - 11 = j
  omega
theorem fx_grp {c : GP} {p d : Nat} (h : d < 5) : (fx c p)[11 + d]? = some (.cells (grpC c d p) 0 0) := by
  rw [fx_at]
  have h5 : d = 0 ∨ d = 1 ∨ d = 2 ∨ d = 3 ∨ d = 4 := by omega
  rcases h5 with rfl | rfl | rfl | rfl | rfl <;> rfl
theorem fx_act {c : GP} {p d : Nat} (h : d < 5) : (fx c p)[16 + d]? = some (actB c) := by
  rw [show 16 + d = 11 + (5 + d) by omega, fx_at]
  have h5 : d = 0 ∨ d = 1 ∨ d = 2 ∨ d = 3 ∨ d = 4 := by omega
  rcases h5 with rfl | rfl | rfl | rfl | rfl <;> rfl
theorem fx_wait {c : GP} {p : Nat} : (fx c p)[21]? = some (waitB c p) := by
  rw [show 21 = 11 + 10 by rfl, fx_at]
  rfl
theorem hp_eq {c : GP} {p d : Nat} {W : Option Box} {H : Heap} (hd : d < 5) (hl : H.length = 28) (hf : ∀ b, b < 22 → H[b]? = (fx c p)[b]?) (hW : W = none ∨ W = some (waitB c p)) : hp c d (grpC c d p) W (vsOf H) = H := by
  refine List.ext_getElem? fun b => ?_
  unfold hp
  by_cases h1 : b < 11
  · rw [List.getElem?_append_left h1, hf b (by omega), hist_at h1]
  · rw [List.getElem?_append_right (show hist.length ≤ b by show 11 ≤ b; omega), show hist.length = 11 from rfl, List.getElem?_map]
    by_cases h2 : b < 28
    · rw [List.getElem?_range' (by omega), show 11 + 1 * (b - 11) = b by omega, Option.map_some]
      have hvs : some (vsOf H b) = H[b]? := by unfold vsOf; rw [List.getElem?_eq_getElem (show b < H.length by omega)]
      by_cases e1 : b = 11 + d
      · subst e1
        rw [show Nat.beq (11 + d) (11 + d) = true from Nat.beq_refl _, hf _ (by omega), fx_grp hd]
        rfl
      · rw [beq_ne e1]
        by_cases e2 : b = 16 + d
        · subst e2
          rw [show Nat.beq (16 + d) (16 + d) = true from Nat.beq_refl _, hf _ (by omega), fx_act hd]
          rfl
        · rw [beq_ne e2]
          by_cases e3 : b = 21
          · subst e3
            rcases hW with rfl | rfl
            · exact hvs
            · rw [hf 21 (by decide), fx_wait]; rfl
          · rw [beq_ne e3]; exact hvs
    · rw [List.getElem?_eq_none (by simp; omega), List.getElem?_eq_none (by omega)]
      rfl
def ev6 (y : MI) : Bool := Nat.beq (y.1 % 2) 0 && !Nat.beq y.1 6
def odB (y : MI) : Bool := Nat.beq (y.1 % 2) 1
def loX (y : MI) : Nat := bif Nat.beq y.1 0 then 0 else bif Nat.beq y.1 2 then 1 else y.2.2 + 1
def hiX (c : GP) (y : MI) : Nat := bif Nat.beq y.2.1 c.d1 || Nat.beq y.2.1 c.d2 then 10 else 0
def flwC (c : GP) (d x : Nat) : List V := bif Nat.beq d c.d1 || Nat.beq d c.d2 then replC c d x else strayC c d
def backX (x : Nat) (y : MI) : List MI := bif Nat.beq y.1 0 then [(1, y.2.1, x)] else bif Nat.beq y.1 2 then [(3, y.2.1, x - 1)] else bif Nat.beq y.1 4 then [(5, y.2.1, x - 1)] else []
theorem back_x {c : GP} {p : Nat} {y : MI} : back c p y = backX (lsD c y.2.1 p) y := rfl
def actC (c : GP) (xs : Nat → V) (w : V) : List V := [iN c.a, iN 4, bN c.g] ++ ((List.range' 3 49).map xs ++ ([qw 1, actV c.a] ++ ((List.range' 54 255).map xs ++ (w :: (zRd ++ (zRd ++ zRd))))))
def stsE (c : GP) (y : MI) : List (Nat × Bool) := (List.range' (y.2.2 + 1) (9 - y.2.2)).map (fun n => (n, false)) ++ ((List.range' (y.2.2 + 1) (9 - y.2.2)).map (fun n => (n, true)) ++ bif Nat.beq y.2.1 c.d1 then [(y.2.2, true)] else [])
def fA (c : GP) : List (MI × Nat) := ((ys c).filter ev6).flatMap fun y => (List.range' (loX y) (hiX c y + 1 - loX y)).map fun x => (y, x)
def fB (c : GP) : List (MI × Nat) := (List.range 12).flatMap fun p => ((ys c).filter fun y => odB y && Nat.ble (rho c y) p).map fun y => (y, p)
def fC (c : GP) : List MI := (ys c).filter fun y => odB y && Nat.ble y.1 3
def fD (c : GP) : List MI := (ys c).filter fun y => Nat.beq y.1 5
def fE (c : GP) : List (MI × Nat × Bool) := (fD c).flatMap fun y => (stsE c y).map fun s => (y, s)
def fM (c : GP) : List Nat := (List.range 66).filter fun p => Nat.blt p (upto c p) && !Nat.beq (main c p).1 6
abbrev VX := (Nat → Box) × (Nat → V)
abbrev FR := Option (Bool × List (Option Box))
noncomputable def rA (c : GP) (f : MI × Nat) (v : VX) : FR := runI c f.1.2.1 (flwC c f.1.2.1 f.2) none v.1 f.1 (backX f.2 f.1)
noncomputable def eA (c : GP) (f : MI × Nat) (v : VX) : FR := expI c f.1.2.1 (flwC c f.1.2.1 f.2) none v.1
noncomputable def rB (c : GP) (f : MI × Nat) (v : VX) : FR := runI c c.a (primC c f.2) (some (waitB c f.2)) v.1 f.1 []
noncomputable def eB (c : GP) (f : MI × Nat) (v : VX) : FR := expI c c.a (primC c f.2) (some (waitB c f.2)) v.1
noncomputable def rC (c : GP) (y : MI) (v : VX) : FR := runI c c.a (actC c v.2 (v.2 309)) none v.1 y []
noncomputable def eC (c : GP) (_ : MI) (v : VX) : FR := expI c c.a (actC c v.2 (v.2 309)) none v.1
noncomputable def rD (c : GP) (y : MI) (v : VX) : FR := runI c c.a (actC c v.2 (.slice 21 0 0 0 15 none)) (some (.cells [] 0 0)) v.1 y []
noncomputable def eD (c : GP) (_ : MI) (v : VX) : FR := expI c c.a (actC c v.2 (.slice 21 0 0 0 15 none)) (some (.cells [] 0 0)) v.1
noncomputable def rE (c : GP) (f : MI × Nat × Bool) (v : VX) : FR := runI c c.a (actC c v.2 (.slice 21 0 0 1 15 none)) (some (.cells (waitC c f.2.1 f.2.2) 0 0)) v.1 f.1 []
noncomputable def eE (c : GP) (f : MI × Nat × Bool) (v : VX) : FR := expI c c.a (actC c v.2 (.slice 21 0 0 1 15 none)) (some (.cells (waitC c f.2.1 f.2.2) 0 0)) v.1
def prM (c : GP) (p : Nat) : Bool := odB (main c p)
def wM (c : GP) (p : Nat) : Option Box := bif prM c p then some (waitB c p) else none
def dM (c : GP) (p : Nat) : Nat := toI c (main c p)
noncomputable def rM (c : GP) (p : Nat) (v : VX) : FR := runM c (dM c p) (prM c p) (grpC c (dM c p) p) (wM c p) v.1 (main c p) (grpC c (dM c p) (p + 1)) (waitB c (p + 1)) (news c p)
noncomputable def eM (c : GP) (p : Nat) (v : VX) : FR := expM c (dM c p) (prM c p) (grpC c (dM c p) p) (wM c p) v.1
def Chunk {α : Type} (r e : α → VX → FR) (l : List α) (k j : Nat) : Prop := ∀ v : VX, ((l.drop (k * j)).take k).map (fun f => r f v) = ((l.drop (k * j)).take k).map fun f => e f v
theorem chunks {α : Type} {r e : α → VX → FR} {l : List α} {k m : Nat} (hk : 0 < k) (hl : l.length ≤ k * m) (h : ∀ j, j < m → Chunk r e l k j) {f : α} (hf : f ∈ l) (v : VX) : r f v = e f v := by
  obtain ⟨i, hi, rfl⟩ := List.getElem_of_mem hf
  have h1 := h (i / k) (Nat.div_lt_of_lt_mul (by omega)) v
  have h2 := congrArg (fun l => l[i % k]?) h1
  have hm := Nat.mod_lt i hk
  have hq : k * (i / k) + i % k = i := Nat.div_add_mod i k
  simp only [List.getElem?_map, List.getElem?_take_of_lt hm, List.getElem?_drop, hq, List.getElem?_eq_getElem hi, Option.map_some, Option.some.injEq] at h2
  exact h2
structure Fcts (c : GP) : Prop where
  qA : ∀ f ∈ fA c, ∀ v, rA c f v = eA c f v
  qB : ∀ f ∈ fB c, ∀ v, rB c f v = eB c f v
  qC : ∀ f ∈ fC c, ∀ v, rC c f v = eC c f v
  qD : ∀ f ∈ fD c, ∀ v, rD c f v = eD c f v
  qE : ∀ f ∈ fE c, ∀ v, rE c f v = eE c f v
  qM : ∀ f ∈ fM c, ∀ v, rM c f v = eM c f v
def miB (a b : MI) : Bool := Nat.beq a.1 b.1 && (Nat.beq a.2.1 b.2.1 && Nat.beq a.2.2 b.2.2)
theorem miB_eq {a b : MI} (h : miB a b = true) : a = b := by
  simp only [miB, Bool.and_eq_true] at h
  exact Prod.ext (Nat.eq_of_beq_eq_true h.1) (Prod.ext (Nat.eq_of_beq_eq_true h.2.1) (Nat.eq_of_beq_eq_true h.2.2))
def inB (l : List MI) (y : MI) : Bool := l.any (miB y)
theorem inB_mem {l : List MI} {y : MI} (h : inB l y = true) : y ∈ l := by
  obtain ⟨z, hz, h⟩ := List.any_eq_true.1 h
  rw [miB_eq h]; exact hz
def imp (a b : Bool) : Bool := !a || b
theorem imp_mp {a b : Bool} (h : imp a b = true) (ha : a = true) : b = true := by subst ha; simpa [imp] using h
def boxB : Box → Box → Bool
  | .cells l v m, .cells l' v' m' => V.beqL l l' && (Nat.beq v v' && Nat.beq m m')
  | _, _ => false
theorem boxB_eq {a b : Box} (h : boxB a b = true) : a = b := by
  cases a <;> cases b <;> simp only [boxB, Bool.and_eq_true, Bool.false_eq_true] at h
  obtain ⟨h1, h2, h3⟩ := h
  rw [V.beqL_eq _ _ h1, Nat.eq_of_beq_eq_true h2, Nat.eq_of_beq_eq_true h3]
def k1 (c : GP) : Bool := (hist.all (Box.own 21) && Box.own 21 (actB c)) && (((List.range 11).all fun x => V.ownL 21 (replC c c.d1 x) && V.ownL 21 (replC c c.d2 x)) && ((List.range 5).all fun d => V.ownL 21 (strayC c d)) && ((List.range 67).all fun p => V.ownL 22 (primC c p) && Box.own 21 (waitB c p)))
def k2 (c : GP) : Bool := (ys c).all fun y => Nat.beq (row c y).length 131 && ((row c y).all V.firm && ((match (row c y)[2]? with | some v => V.beq v (bN (toN c y)) | none => false) && imp (Nat.blt (toN c y) 20) (Nat.ble 10 (toN c y) && Nat.blt (toN c y) 15)))
def k3 (c : GP) : Bool := (List.range 66).all fun p => imp (Nat.blt p (upto c p)) (inB (ys c) (main c p) && (Nat.ble (rho c (main c p)) (p + 1) && (Nat.ble (upto c p) (upto c (p + 1)) && (Nat.ble (upto c (p + 1)) 66 &&
  (((List.range' (upto c p) (upto c (p + 1) - upto c p)).all fun q => inB (ys c) (main c q)) && imp (Nat.ble 20 (toN c (main c p))) (Nat.beq (upto c (p + 1) - upto c p) 0 && ((List.range 5).all (fun d => boxB (.cells (grpC c d (p + 1)) 0 0) (.cells (grpC c d p) 0 0)) && boxB (waitB c (p + 1)) (waitB c p))))))))
def k4 (c : GP) : Bool := (List.range 67).all fun p => (ys c).all fun y => imp (Nat.ble (rho c y) p) (match back c p y with | [] => true | [z] => inB (ys c) z && (Nat.ble (rho c z) (upto c p) && (Nat.beq (rk z) 0 && (Nat.beq (rk y) 1 && Nat.blt (toN c y) 20))) | _ => false)
def k5 (c : GP) : Bool := (List.range 67).all fun p => imp (Nat.beq (upto c p) p) (Nat.ble 12 p && Nat.beq (p % 6) 0) && imp (Nat.ble 12 p && Nat.beq (p % 6) 0) (Nat.beq (upto c p) p)
def k6 (c : GP) : Bool := ((List.range' 1 9).all fun i => Nat.beq (upto c (7 + 6 * i)) (9 + 6 * i) && (inB (ys c) (main c (7 + 6 * i)) && inB (ys c) (main c (8 + 6 * i)))) && (Nat.beq (upto c 0) 4 && (List.range 4).all fun q => inB (ys c) (main c q))
def k7 (c : GP) : Bool := (List.range 67).all fun p => (ys c).all fun y => imp (Nat.ble (rho c y) p) (imp (ev6 y) (Nat.ble (loX y) (lsD c y.2.1 p) && Nat.ble (lsD c y.2.1 p) (hiX c y)) &&
  (imp (Nat.beq y.1 5) (Nat.blt 12 p && (Nat.beq (waitN p) 0 || (Nat.beq (waitN p) 1 && (Nat.ble (nA p) 9 && (Nat.blt y.2.2 (nA p) || (Nat.beq y.2.2 (nA p) && (Nat.beq y.2.1 c.d1 && Nat.beq ((p - 12) % 6) 4)))))))))
def k9 (c : GP) : Bool := ((ys c).all fun y => Nat.ble y.1 6 && (imp (!Nat.beq y.1 6) (Nat.blt (toI c y) 5) && imp (ev6 y) (!Nat.beq y.2.1 c.a))) && ((!Nat.beq c.d1 c.a && !Nat.beq c.d2 c.a) && (Nat.blt c.a 5 && (List.range 67).all fun p => (List.range 5).all fun d => Nat.ble (lsD c d p) 10))
def k10 (c : GP) : Bool := (List.range 66).all fun p => imp (Nat.blt p (upto c p) && !Nat.beq (main c p).1 6) (((List.range 5).all fun d => Nat.beq d (toI c (main c p)) || boxB (.cells (grpC c d (p + 1)) 0 0) (.cells (grpC c d p) 0 0)) && (prM c p || boxB (waitB c (p + 1)) (waitB c p)))
theorem all_lt {n : Nat} {f : Nat → Bool} (h : (List.range n).all f = true) {i : Nat} (hi : i < n) : f i = true := List.all_eq_true.1 h i (List.mem_range.2 hi)
theorem ble_le {a b : Nat} (h : Nat.ble a b = true) : a ≤ b := Nat.le_of_ble_eq_true h
theorem le_ble {a b : Nat} (h : a ≤ b) : Nat.ble a b = true := Nat.ble_eq_true_of_le h
theorem beq_is {a b : Nat} (h : Nat.beq a b = true) : a = b := Nat.eq_of_beq_eq_true h
theorem is_beq {a b : Nat} (h : a = b) : Nat.beq a b = true := by subst h; exact Nat.beq_refl _
mutual
theorem own_more {m n : Nat} (h : m ≤ n) : ∀ v : V, V.own m v = true → V.own n v = true
  | .bool _, _ | .int .., _ | .str _, _ | .nilptr, _ | .nils, _ | .nilmap, _ | .nilfn, _ | .nilif, _ | .top, _ | .abs .., _ | .syms .., _ | .emp0, _ => rfl
  | .ptr .., k | .slice .., k | .map _, k => lt_blt (Nat.lt_of_lt_of_le (blt_lt' k) h)
  | .pptr _, k | .psl .., k => k
  | .fn f a c, k => by
    simp only [V.own, Bool.and_eq_true] at k ⊢
    exact ⟨ownL_more h a k.1, ownL_more h c k.2⟩
  | .iface t v, k => by simp only [V.own] at k ⊢; exact own_more h v k
  | .agg l, k | .tup l, k => by simp only [V.own] at k ⊢; exact ownL_more h l k
theorem ownL_more {m n : Nat} (h : m ≤ n) : ∀ l : List V, V.ownL m l = true → V.ownL n l = true
  | [], _ => rfl
  | a :: l, k => by
    simp only [V.ownL, Bool.and_eq_true] at k ⊢
    exact ⟨own_more h a k.1, ownL_more h l k.2⟩
end
theorem ownB_more {m n : Nat} (h : m ≤ n) {x : Box} (k : Box.own m x = true) : Box.own n x = true := by
  cases x with
  | cells l v mn =>
    simp only [Box.own, Bool.and_eq_true] at k ⊢
    exact ⟨ownL_more h l k.1, k.2⟩
  | map es t =>
    simp only [Box.own, List.all_eq_true, Bool.and_eq_true] at k ⊢
    exact fun p hp => ⟨own_more h _ (k p hp).1, own_more h _ (k p hp).2⟩
section
variable {c : GP}
theorem grp_flw {p d : Nat} (h : d ≠ c.a) : grpC c d p = flwC c d (lsD c d p) := by
  unfold grpC flwC
  rw [beq_ne h]
  rfl
theorem grp_prim {p : Nat} : grpC c c.a p = primC c p := by
  unfold grpC
  rw [Nat.beq_refl]
  rfl
theorem fx_own (h1 : k1 c = true) (h9 : k9 c = true) {p : Nat} (hp : p ≤ 66) {b : Nat} (hb : b < 22) : ∃ x, (fx c p)[b]? = some x ∧ Box.own 22 x = true ∧ (b ≠ 11 + c.a → Box.own 21 x = true) := by
  unfold k1 at h1
  unfold k9 at h9
  simp only [Bool.and_eq_true] at h1 h9
  obtain ⟨⟨a1, a2⟩, ⟨a3, a4⟩, a5⟩ := h1
  obtain ⟨_, ⟨_, _⟩, _, a6⟩ := h9
  have of21 : ∀ {x : Box}, (fx c p)[b]? = some x → Box.own 21 x = true → ∃ x, (fx c p)[b]? = some x ∧ Box.own 22 x = true ∧ (b ≠ 11 + c.a → Box.own 21 x = true) := fun h k => ⟨_, h, ownB_more (by decide) k, fun _ => k⟩
  by_cases h11 : b < 11
  · have hl : b < hist.length := h11
    refine of21 (x := hist[b]) ((hist_at h11).trans (List.getElem?_eq_getElem hl)) (List.all_eq_true.1 a1 _ (List.getElem_mem hl))
  by_cases h16 : b < 16
  · obtain ⟨d, rfl⟩ : ∃ d, b = 11 + d := ⟨b - 11, by omega⟩
    by_cases hd : d = c.a
    · subst hd
      have hq := all_lt a5 (show p < 67 by omega)
      simp only [Bool.and_eq_true] at hq
      refine ⟨_, fx_grp (by omega), ?_, fun h => absurd rfl h⟩
      rw [grp_prim]
      simp only [Box.own, hq.1, Bool.true_and]
      rfl
    · refine of21 (fx_grp (by omega)) ?_
      rw [grp_flw hd]
      have hx := all_lt (all_lt a6 (show p < 67 by omega)) (show d < 5 by omega)
      have hx := ble_le hx
      have hk : V.ownL 21 (flwC c d (lsD c d p)) = true := by
        unfold flwC
        cases e : (Nat.beq d c.d1 || Nat.beq d c.d2) with
        | false => exact all_lt a4 (show d < 5 by omega)
        | true =>
          have hq := all_lt a3 (show lsD c d p < 11 by omega)
          simp only [Bool.and_eq_true] at hq
          rw [Bool.or_eq_true] at e
          rcases e with e | e
          · have := beq_is e; subst this; exact hq.1
          · have := beq_is e; subst this; exact hq.2
      simp only [Box.own, hk, Bool.true_and]
      rfl
  by_cases h21 : b < 21
  · obtain ⟨d, rfl⟩ : ∃ d, b = 16 + d := ⟨b - 16, by omega⟩
    exact of21 (fx_act (by omega)) a2
  · have : b = 21 := by omega
    subst this
    have hq := all_lt a5 (show p < 67 by omega)
    simp only [Bool.and_eq_true] at hq
    exact of21 fx_wait hq.2
theorem prim_act {p : Nat} (hp : 12 ≤ p) : ∃ xs : Nat → V, xs 309 = waitV p ∧ primC c p = actC c xs (waitV p) := by
  have hst : ∀ (o s n : Nat), (stN o s n).length = 49 := fun o s n => by
    have h5 : ∀ (i : Nat) (d : V), (bif Nat.beq i o then [qt, d, qs, qs, qs] else zObj).length = 5 := fun i d => by cases Nat.beq i o <;> rfl
    unfold stN
    cases Nat.ble n 6
    · simp [oBase, zLast, zOp, List.length_flatMap, h5]
      rfl
    · rfl
  let L1 : List V := stN c.o (bif Nat.ble (4 + c.en) p then 1 else 0) (nA p)
  let L2 : List V := ((List.range 5).map fun x => bV (isHd c p x)) ++ ((bif Nat.ble (4 + c.en) p then hasA c (Nat.ble 11 p) (Nat.ble 12 p) else fz5) ++ ((List.range 5).flatMap fun x => zSt 0 (bif isHd c p x then .emp0 else .nils)))
  have l1 : L1.length = 49 := hst _ _ _
  have lz : ∀ (s : Nat) (v : V), (zSt s v).length = 49 := fun s v => rfl
  have l2 : L2.length = 255 := by
    have : (bif Nat.ble (4 + c.en) p then hasA c (Nat.ble 11 p) (Nat.ble 12 p) else fz5).length = 5 := by
      cases Nat.ble (4 + c.en) p <;> simp [hasA, fz5]
    simp only [L2, List.length_append, List.length_map, List.length_range, this, List.length_flatMap, lz]
    rfl
  have mp : ∀ (a : Nat) (l : List V) (f : Nat → V), (∀ i, i < l.length → f (a + i) = l.getD i V.undef) → (List.range' a l.length).map f = l := by
    intro a l f h
    refine List.ext_getElem? fun i => ?_
    rw [List.getElem?_map]
    by_cases hi : i < l.length
    · rw [List.getElem?_range' hi, Nat.one_mul, Option.map_some, h i hi, List.getD_eq_getElem?_getD, List.getElem?_eq_getElem hi]
      rfl
    · rw [List.getElem?_eq_none (by simp; omega), List.getElem?_eq_none (by omega)]
      rfl
  refine ⟨fun i => if i = 309 then waitV p else if i < 52 then L1.getD (i - 3) V.undef else L2.getD (i - 54) V.undef, rfl, ?_⟩
  have e1 := mp 3 L1 (fun i => if i = 309 then waitV p else if i < 52 then L1.getD (i - 3) V.undef else L2.getD (i - 54) V.undef) fun i hi => by
    rw [if_neg (by omega), if_pos (by omega), Nat.add_sub_cancel_left]
  have e2 := mp 54 L2 (fun i => if i = 309 then waitV p else if i < 52 then L1.getD (i - 3) V.undef else L2.getD (i - 54) V.undef) fun i hi => by
    rw [if_neg (by omega), if_neg (by omega), Nat.add_sub_cancel_left]
  rw [l1] at e1
  rw [l2] at e2
  unfold actC
  rw [e1, e2]
  have hph : phA c p = 4 := by unfold phA; rw [le_ble hp]; rfl
  unfold primC gBox
  rw [hph]
  simp only [L2, List.append_assoc]
  rfl
theorem args_eq {y : MI} (h : y.1 ≠ 6) : args0 c y = argsS c (toI c y) y := by
  unfold args0 argsS toN
  rw [beq_ne h]
  simp only [cond_false, Nat.add_sub_cancel_left]
theorem net_of (F : Fcts c) (h1 : k1 c = true) (h2 : k2 c = true) (h3 : k3 c = true) (h4 : k4 c = true) (h5 : k5 c = true) (h6 : k6 c = true) (h7 : k7 c = true) (h9 : k9 c = true) (h10 : k10 c = true) : Net c := by
  have h9' := h9
  unfold k2 at h2
  unfold k3 at h3
  unfold k4 at h4
  unfold k5 at h5
  unfold k6 at h6
  unfold k7 at h7
  unfold k9 at h9'
  have a9 := Bool.and_eq_true_iff.1 h9'
  have hlen : ∀ p, (fx c p).length = 22 := fun p => rfl
  have hrow : ∀ y ∈ ys c, MsgOK (row c y) ∧ (row c y)[2]? = some (bN (toN c y)) ∧ (toN c y < 20 → 10 ≤ toN c y ∧ toN c y < 15) := fun y hy => by
    have := List.all_eq_true.1 h2 y hy
    simp only [Bool.and_eq_true] at this
    obtain ⟨q1, q2, q3, q4⟩ := this
    refine ⟨⟨beq_is q1, q2⟩, ?_, fun h => ?_⟩
    · split at q3
      · rename_i v hv; rw [hv, V.beq_eq _ _ q3]
      · simp at q3
    · have := imp_mp q4 (lt_blt h)
      simp only [Bool.and_eq_true] at this
      exact ⟨ble_le this.1, blt_lt' this.2⟩
  have hys : ∀ y ∈ ys c, y.1 ≤ 6 ∧ (y.1 ≠ 6 → toI c y < 5) ∧ (ev6 y = true → y.2.1 ≠ c.a) := fun y hy => by
    have := List.all_eq_true.1 a9.1 y hy
    simp only [Bool.and_eq_true] at this
    refine ⟨ble_le this.1, fun h => blt_lt' (imp_mp this.2.1 (by rw [beq_ne h]; rfl)), fun h c' => ?_⟩
    have := imp_mp this.2.2 h
    rw [is_beq c'] at this
    simp at this
  have m3 : ∀ p, p < 66 → p < upto c p → _ := fun p hp hu => imp_mp (all_lt h3 hp) (lt_blt hu)
  have hback : ∀ p, p ≤ 66 → ∀ y ∈ ys c, rho c y ≤ p → (back c p y = [] ∨ ∃ z, back c p y = [z] ∧ z ∈ ys c ∧ rho c z ≤ upto c p ∧ rk z = 0 ∧ rk y = 1 ∧ toN c y < 20) := fun p hp y hy hr => by
    have := imp_mp (List.all_eq_true.1 (all_lt h4 (show p < 67 by omega)) y hy) (le_ble hr)
    split at this
    · rename_i he; exact .inl he
    · rename_i z he
      simp only [Bool.and_eq_true] at this
      exact .inr ⟨z, he, inB_mem this.1, ble_le this.2.1, beq_is this.2.2.1, beq_is this.2.2.2.1, blt_lt' this.2.2.2.2⟩
    · simp at this
  have hbr : ∀ p, p ≤ 66 → ∀ y ∈ ys c, rho c y ≤ p → Rows ((back c p y).map (row c)) := fun p hp y hy hr => by
    rcases hback p hp y hy hr with h | ⟨z, h, z1, _⟩
    · rw [h]; exact Rows.nil
    · rw [h]; exact Rows.one (hrow z z1).1
  have hfxo : ∀ p, p ≤ 66 → FxOK (fx c p) := fun p hp => ⟨hlen p, fun b hb => by
    obtain ⟨x, q1, q2, _⟩ := fx_own h1 h9 hp hb
    exact ⟨x, q1, q2⟩⟩
  refine ⟨hfxo, hrow, fun p hp y hy hr hc H hl hf => ?_, fun p hp hu hc H hl hf => ?_, fun p hp hu hc => ?_, fun p hp hu => ?_, fun p hp hu q q1 q2 => ?_, hback, fun p hp => ?_, fun i i1 i2 => ?_, ?_⟩
  · -- idle
    obtain ⟨_, y2, y3⟩ := hys y hy
    have h6' : y.1 ≠ 6 := fun h => by unfold toN at hc; rw [is_beq h] at hc; simp at hc
    have hd := y2 h6'
    have hk := imp_mp (List.all_eq_true.1 (all_lt h7 (show p < 67 by omega)) y hy) (le_ble hr)
    simp only [Bool.and_eq_true] at hk
    rw [args_eq h6']
    refine stepped_idle (lawD_sim 39) hl (fun b hb => ?_) (hbr p hp y hy hr) ?_
    · obtain ⟨x, q1, q2, _⟩ := fx_own h1 h9 hp hb
      exact ⟨x, q1, (hf b hb).trans q1, q2⟩
    -- the fact
    have go : ∀ (G : List V) (W : Option Box) (zs : List MI), grpC c (toI c y) p = G → (W = none ∨ W = some (waitB c p)) → back c p y = zs → runI c (toI c y) G W (vsOf H) y zs = expI c (toI c y) G W (vsOf H) →
        callO (ctxD 39) 13 (argsS c (toI c y) y) H (ckI ((back c p y).map (row c))) (List.range 28) = some (true, H.map some) := by
      intro G W zs hG hW hz h
      subst hG
      subst hz
      unfold runI expI at h
      rw [hp_eq hd hl hf hW] at h
      exact h
    cases he : ev6 y with
    | true =>
      have hto : toI c y = y.2.1 := by
        unfold toI
        have : Nat.beq (y.1 % 2) 1 = false := by
          simp only [ev6, Bool.and_eq_true] at he
          exact beq_ne (by have := beq_is he.1; omega)
        rw [this]; rfl
      have hx := imp_mp hk.1 he
      simp only [Bool.and_eq_true] at hx
      have hx1 := ble_le hx.1
      have hx2 := ble_le hx.2
      refine go (flwC c y.2.1 (lsD c y.2.1 p)) none (backX (lsD c y.2.1 p) y) (by rw [hto]; exact grp_flw (y3 he)) (.inl rfl) back_x ?_
      have hm : (y, lsD c y.2.1 p) ∈ fA c := List.mem_flatMap.2 ⟨y, List.mem_filter.2 ⟨hy, he⟩, List.mem_map.2 ⟨_, List.mem_range'_1.2 ⟨hx1, by omega⟩, rfl⟩⟩
      have := F.qA _ hm (vsOf H, fun _ => .nils)
      rw [hto]
      exact this
    | false =>
      have hodd : odB y = true := by
        unfold odB
        simp only [ev6, Bool.and_eq_false_imp] at he
        refine is_beq ?_
        by_cases h2 : y.1 % 2 = 0
        · have := he (is_beq h2)
          rw [beq_ne h6'] at this
          simp at this
        · omega
      have hto : toI c y = c.a := by unfold toI; rw [show Nat.beq (y.1 % 2) 1 = true from hodd]; rfl
      have hgr : grpC c (toI c y) p = primC c p := by rw [hto]; exact grp_prim
      have hbk : back c p y = [] := by
        have h2 : y.1 % 2 = 1 := beq_is hodd
        unfold back
        rw [beq_ne (show y.1 ≠ 0 by omega), beq_ne (show y.1 ≠ 2 by omega), beq_ne (show y.1 ≠ 4 by omega)]
        rfl
      by_cases h12 : p < 12
      · refine go (primC c p) (some (waitB c p)) [] hgr (.inr rfl) hbk ?_
        have hm : (y, p) ∈ fB c := List.mem_flatMap.2 ⟨p, List.mem_range.2 h12, List.mem_map.2 ⟨y, List.mem_filter.2 ⟨hy, by rw [hodd, le_ble hr]; rfl⟩, rfl⟩⟩
        have := F.qB _ hm (vsOf H, fun _ => .nils)
        rw [hto]
        exact this
      · obtain ⟨xs, x1, x2⟩ := prim_act (c := c) (show 12 ≤ p by omega)
        by_cases h5' : y.1 = 5
        · have hw := imp_mp hk.2 (is_beq h5')
          simp only [Bool.and_eq_true, Bool.or_eq_true] at hw
          obtain ⟨w1, w2⟩ := hw
          have w1 := blt_lt' w1
          have hnb : Nat.ble p 12 = false := Bool.eq_false_iff.2 fun h => by have := ble_le h; omega
          have hD : y ∈ fD c := List.mem_filter.2 ⟨hy, is_beq h5'⟩
          rcases w2 with w2 | ⟨w2, w3, w4⟩
          · have w2 := beq_is w2
            have hwv : waitV p = .slice 21 0 0 0 15 none := by unfold waitV; rw [hnb, w2]; rfl
            have hwb : waitB c p = .cells [] 0 0 := by unfold waitB; rw [w2]; rfl
            refine go (actC c xs (.slice 21 0 0 0 15 none)) (some (.cells [] 0 0)) [] (by rw [hgr, x2, hwv]) (.inr (by rw [hwb])) hbk ?_
            have := F.qD _ hD (vsOf H, xs)
            rw [hto]
            exact this
          · have w2 := beq_is w2
            have w3 := ble_le w3
            have hwv : waitV p = .slice 21 0 0 1 15 none := by unfold waitV; rw [hnb, w2]; rfl
            have hwb : waitB c p = .cells (waitC c (nA p) (Nat.beq ((p - 12) % 6) 4)) 0 0 := by unfold waitB; rw [w2]; rfl
            refine go (actC c xs (.slice 21 0 0 1 15 none)) (some (.cells (waitC c (nA p) (Nat.beq ((p - 12) % 6) 4)) 0 0)) [] (by rw [hgr, x2, hwv]) (.inr (by rw [hwb])) hbk ?_
            have hs : (nA p, Nat.beq ((p - 12) % 6) 4) ∈ stsE c y := by
              unfold stsE
              rcases w4 with w4 | w4
              · have w4 := blt_lt' w4
                have hr' : nA p ∈ List.range' (y.2.2 + 1) (9 - y.2.2) := List.mem_range'_1.2 ⟨by omega, by omega⟩
                cases hb : Nat.beq ((p - 12) % 6) 4 with
                | false => exact List.mem_append.2 (.inl (List.mem_map.2 ⟨_, hr', rfl⟩))
                | true => exact List.mem_append.2 (.inr (List.mem_append.2 (.inl (List.mem_map.2 ⟨_, hr', rfl⟩))))
              · obtain ⟨u1, u2, u3⟩ := w4
                rw [u2, u3, ← beq_is u1]
                exact List.mem_append.2 (.inr (List.mem_append.2 (.inr (by simp))))
            have hm : (y, nA p, Nat.beq ((p - 12) % 6) 4) ∈ fE c := List.mem_flatMap.2 ⟨y, hD, List.mem_map.2 ⟨_, hs, rfl⟩⟩
            have := F.qE _ hm (vsOf H, xs)
            rw [hto]
            exact this
        · have h13 : y.1 ≤ 3 := by
            have := (hys y hy).1
            have h2 : y.1 % 2 = 1 := beq_is hodd
            omega
          refine go (actC c xs (xs 309)) none [] (by rw [hgr, x2, x1]) (.inl rfl) hbk ?_
          have hm : y ∈ fC c := List.mem_filter.2 ⟨hy, by rw [hodd, le_ble h13]; rfl⟩
          have := F.qC _ hm (vsOf H, xs)
          rw [hto]
          exact this
  · -- main
    have hk := m3 p hp hu
    simp only [Bool.and_eq_true] at hk
    have hy := inB_mem hk.1
    have h6' : (main c p).1 ≠ 6 := fun h => by unfold toN at hc; rw [is_beq h] at hc; simp at hc
    have hd := (hys _ hy).2.1 h6'
    rw [args_eq h6']
    have hm : p ∈ fM c := List.mem_filter.2 ⟨List.mem_range.2 hp, by rw [lt_blt hu, beq_ne h6']; rfl⟩
    have hfact := F.qM _ hm (vsOf H, fun _ => .nils)
    unfold rM eM runM expM at hfact
    have hwm : wM c p = none ∨ wM c p = some (waitB c p) := by
      unfold wM; cases prM c p
      · exact .inl rfl
      · exact .inr rfl
    have hdm : dM c p = toI c (main c p) := rfl
    simp only at hfact
    rw [hdm, hp_eq hd hl hf hwm] at hfact
    have hodd : prM c p = true → toI c (main c p) = c.a := fun h => by unfold toI; rw [show Nat.beq ((main c p).1 % 2) 1 = true from h]; rfl
    have hev : prM c p = false → toI c (main c p) ≠ c.a := fun h => by
      have hev6 : ev6 (main c p) = true := by
        unfold ev6
        unfold prM odB at h
        rw [beq_ne h6']
        have : (main c p).1 % 2 ≠ 1 := fun e => by rw [is_beq e] at h; simp at h
        rw [is_beq (show (main c p).1 % 2 = 0 by omega)]
        rfl
      have ht : toI c (main c p) = (main c p).2.1 := by unfold toI; rw [show Nat.beq ((main c p).1 % 2) 1 = false from h]; rfl
      rw [ht]
      exact (hys _ hy).2.2 hev6
    have hk10 := imp_mp (all_lt h10 hp) (by rw [lt_blt hu, beq_ne h6']; rfl)
    rw [Bool.and_eq_true] at hk10
    have same : ∀ b, b < 22 → b ≠ 11 + toI c (main c p) → b ≠ 21 → (fx c (p + 1))[b]? = (fx c p)[b]? := fun b hb hbd hb21 => by
      by_cases h11 : b < 11
      · rw [hist_at h11, hist_at h11]
      by_cases h16 : b < 16
      · obtain ⟨d, rfl⟩ : ∃ d, b = 11 + d := ⟨b - 11, by omega⟩
        rw [fx_grp (by omega), fx_grp (by omega)]
        have := all_lt hk10.1 (show d < 5 by omega)
        rw [beq_ne (show d ≠ toI c (main c p) by omega), Bool.false_or] at this
        exact congrArg some (boxB_eq this)
      · obtain ⟨d, rfl⟩ : ∃ d, b = 16 + d := ⟨b - 16, by omega⟩
        rw [fx_act (by omega), fx_act (by omega)]
    refine stepped_main (pr := prM c p) (lawD_sim 39) hd hl (fx_grp hd) fx_wait (fun h => ?_) (fun b hb hbd hb21 => ?_) hfact
    · have := hk10.2
      rw [h, Bool.false_or] at this
      rw [boxB_eq this]
      obtain ⟨x, q1, q2, _⟩ := fx_own h1 h9 (show p ≤ 66 by omega) (show 21 < 22 by decide)
      rw [fx_wait] at q1
      simp only [Option.some.injEq] at q1; subst q1
      exact ⟨(hf 21 (by decide)).trans fx_wait, q2⟩
    · obtain ⟨x, q1, q2, q3⟩ := fx_own h1 h9 (show p ≤ 66 by omega) hb
      refine ⟨x, (same b hb hbd hb21).trans q1, (hf b hb).trans q1, ?_⟩
      cases hpr : prM c p with
      | true => exact q3 (by rw [← hodd hpr]; exact hbd)
      | false => exact q2
  · -- told
    have hk := m3 p hp hu
    simp only [Bool.and_eq_true] at hk
    have := imp_mp hk.2.2.2.2.2 (le_ble hc)
    simp only [Bool.and_eq_true] at this
    obtain ⟨q1, q2, q3⟩ := this
    refine ⟨?_, by unfold news; rw [beq_is q1]; rfl⟩
    have g : ∀ d, d < 5 → Box.cells (grpC c d (p + 1)) 0 0 = .cells (grpC c d p) 0 0 := fun d hd => boxB_eq (all_lt q2 hd)
    unfold fx
    rw [g 0 (by decide), g 1 (by decide), g 2 (by decide), g 3 (by decide), g 4 (by decide), boxB_eq q3]
  · have hk := m3 p hp hu
    simp only [Bool.and_eq_true] at hk
    exact ⟨inB_mem hk.1, ble_le hk.2.1, ble_le hk.2.2.1, ble_le hk.2.2.2.1⟩
  · have hk := m3 p hp hu
    simp only [Bool.and_eq_true] at hk
    exact inB_mem (List.all_eq_true.1 hk.2.2.2.2.1 q (List.mem_range'_1.2 ⟨q1, by omega⟩))
  · have := all_lt h5 (show p < 67 by omega)
    simp only [Bool.and_eq_true] at this
    refine ⟨fun h => ?_, fun h => ?_⟩
    · have := imp_mp this.1 (is_beq h)
      simp only [Bool.and_eq_true] at this
      exact ⟨ble_le this.1, beq_is this.2⟩
    · exact beq_is (imp_mp this.2 (by rw [le_ble h.1, is_beq h.2]; rfl))
  · have := List.all_eq_true.1 (Bool.and_eq_true_iff.1 h6).1 i (List.mem_range'_1.2 ⟨i1, by omega⟩)
    simp only [Bool.and_eq_true] at this
    exact ⟨beq_is this.1, inB_mem this.2.1, inB_mem this.2.2⟩
  · have := (Bool.and_eq_true_iff.1 h6).2
    simp only [Bool.and_eq_true] at this
    exact ⟨beq_is this.1, fun q hq => inB_mem (all_lt this.2 hq)⟩
end
end Go.PE
