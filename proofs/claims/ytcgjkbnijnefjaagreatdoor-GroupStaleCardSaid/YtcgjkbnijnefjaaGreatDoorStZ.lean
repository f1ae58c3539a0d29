/- Rows of zeros; what dead slots hold behind a round. -/
import Derived.Test.YtcgjkbnijnefjaaGreatDoorStM
namespace Go.PE
set_option maxRecDepth 100000
def mz : List V := [(qb 0), (qb 0), (qb 0), (qw 0), (qw 0), (qb 0), (qw 0), (qb 0), qf, (qb 0), (qb 0), (qi 0), (qb 0), (qw 0), qf, qs, qs, qs, qs, qf, qs, qs, qs, qs, qf, qs, qs, qs, qs, qf, qs, qs, qs, qs, qf, qs, qs, qs, qs, qf, qs, qs, qs, qs, (qw 0), (qb 0), qs, (qw 0), (qb 0), qs, (qw 0), (qb 0), qs, (qw 0), (qw 0), (qb 0), (qw 0), (qb 0), (qb 0), (qb 0), qs, .nils, (qi 0), (qw 0), .nils, (qw 0), qf, qs, qs, qs, qs, qf, qs, qs, qs, qs, qf, qs, qs, qs, qs, qf, qs, qs, qs, qs, qf, qs, qs, qs, qs, qf, qs, qs, qs, qs, (qw 0), (qb 0), qs, (qw 0), (qb 0), qs, (qw 0), (qb 0), qs, (qw 0), (qw 0), (qb 0), (qw 0), (qb 0), (qb 0), (qb 0), qs, .nils, (qw 0), (qw 0), (qb 0), (qw 0), (qb 0), (qb 0), (qb 0), qs, (qw 0), (qb 0), (qw 0), (qb 0), (qb 0), (qb 0), qs, (qb 0), qs]
def gz : List V := []
def sz : List V := [(qw 0), qf, qs, qs, qs, qs, qf, qs, qs, qs, qs, qf, qs, qs, qs, qs, qf, qs, qs, qs, qs, qf, qs, qs, qs, qs, qf, qs, qs, qs, qs, (qw 0), (qb 0), qs, (qw 0), (qb 0), qs, (qw 0), (qb 0), qs, (qw 0), (qw 0), (qb 0), (qw 0), (qb 0), (qb 0), (qb 0), qs, .nils]

/-- Rows written by a zero row: each with some cells others. -/
noncomputable def rw (z : List V) (ps : List (List (Nat × V))) : List V := List.rec (motive := fun _ => List V) [] (fun p _ ih => patch p z ++ ih) ps
def cellsAt (h : Heap) (i : Nat) : List V := match h[i]? with | some (.cells l _ _) => l | _ => []
def dead0 : List V := [(.pptr []), (.pptr []), (.agg [.top, .top, .top, .top, .top, .top, .top, .top, qf, .top, .top, .top, .top, .top, qf, .top, .top, .top, .top, qf, .top, .top, .top, .top, qf, .top, .top, .top, .top, qf, .top, .top, .top, .top, qf, .top, .top, .top, .top, qf, .top, .top, .top, .top, .top, .top, .top, .top, .top, .top, .top, .top, .top, .top, .top, .top, .top, .top, .top, .top, .top, .top, .top, .top, .top, .top, qf, .top, .top, .top, .top, qf, .top, .top, .top, .top, qf, .top, .top, .top, .top, qf, .top, .top, .top, .top, qf, .top, .top, .top, .top, qf, .top, .top, .top, .top, .top, .top, .top, .top, .top, .top, .top, .top, .top, .top, .top, .top, .top, .top, .top, .top, .top, .top, .top, .top, .top, .top, .top, .top, .top, .top, .top, .top, .top, .top, .top, .top, .top, .top, .top]), (.pptr []), .top, qt, qt, (.pptr []), (.pptr []), .top, .top, (.pptr []), (.pptr []), (.pptr []), (.pptr []), (.pptr []), (.pptr []), (.pptr []), (.pptr []), (.agg [.top, .top, .top, .top, .top, .top, .top, .top, qf, .top, .top, .top, .top, .top, qf, .top, .top, .top, .top, qf, .top, .top, .top, .top, qf, .top, .top, .top, .top, qf, .top, .top, .top, .top, qf, .top, .top, .top, .top, qf, .top, .top, .top, .top, .top, .top, .top, .top, .top, .top, .top, .top, .top, .top, .top, .top, .top, .top, .top, .top, .top, .top, .top, .top, .top, .top, qf, .top, .top, .top, .top, qf, .top, .top, .top, .top, qf, .top, .top, .top, .top, qf, .top, .top, .top, .top, qf, .top, .top, .top, .top, qf, .top, .top, .top, .top, .top, .top, .top, .top, .top, .top, .top, .top, .top, .top, .top, .top, .top, .top, .top, .top, .top, .top, .top, .top, .top, .top, .top, .top, .top, .top, .top, .top, .top, .top, .top, .top, .top, .top, .top]), .top, .top, qf, qf]
def dead1 : List V := [(.pptr []), (.pptr []), (.agg [.top, .top, .top, .top, .top, .top, .top, .top, qf, .top, .top, .top, .top, .top, qf, .top, .top, .top, .top, qf, .top, .top, .top, .top, qf, .top, .top, .top, .top, qf, .top, .top, .top, .top, qf, .top, .top, .top, .top, qf, .top, .top, .top, .top, .top, .top, .top, .top, .top, .top, .top, .top, .top, .top, .top, .top, .top, .top, .top, .top, .top, .top, .top, .top, .top, .top, qf, .top, .top, .top, .top, qf, .top, .top, .top, .top, qf, .top, .top, .top, .top, qf, .top, .top, .top, .top, qf, .top, .top, .top, .top, qf, .top, .top, .top, .top, .top, .top, .top, .top, .top, .top, .top, .top, .top, .top, .top, .top, .top, .top, .top, .top, .top, .top, .top, .top, .top, .top, .top, .top, .top, .top, .top, .top, .top, .top, .top, .top, .top, .top, .top]), (.pptr []), .top, qf, qf, (.tup []), (.tup []), (.tup []), (.tup []), (.tup []), (.tup []), (.tup []), (.tup []), (.tup []), (.tup []), (.tup []), (.tup []), (.tup []), (.tup []), (.tup []), (.tup []), qf]

/-- What the kernel reckons of a class: the beginning; to the loop's head; a round; the end. -/
noncomputable def pA (g r : Nat) : Bool := phaseS ctx2 3000 169 (app stA .skip) ([modV .u8 4 g, modV .u8 6 r] ++ List.replicate 167 V.undef) [] .normal [] 4 (eA g r) []
noncomputable def pC (g r : Nat) (π : List Nat) (eP : Env) (HP : Heap) : Bool := phaseS ctx2 3000 169 (app stC .skip) ((eA g r).set 22 (.bool false)) [] .normal π DC eP HP
noncomputable def bo (eP : Env) (HP : Heap) (all : V) (dead : List V) (j : Nat) : Option (Bool × List (Option Box)) := stayS ctx2 3000 169 stB ((eP.set 117 all).set 125 (.int .i64 (.ofNat j))) HP .normal DB1 (eT dead eP all j)
noncomputable def gh (HP : Heap) : Option (Bool × List (Option Box)) := some (true, (List.range HP.length).map (heapT HP).get)
noncomputable def pT (eP : Env) (HP : Heap) : Bool := lastS ctx2 3000 169 stRest eP HP 6
noncomputable def pL (eP : Env) (HP : Heap) (all : V) (M : Nat) : Bool :=
  (Nat.beq eP.length 169 && (dlL.all fun t => match V.ren ((List.range HP.length)[·]?) (eP.getD t V.undef) with | some v => V.beq v (eP.getD t V.undef) | none => false) &&
      (match V.ren ((List.range HP.length)[·]?) all with | some v => V.beq v all | none => false) && (match lenK false all with | some m => Nat.beq m M | none => false))

theorem z0 {P : Nat → Prop} : ∀ j, j < 0 → P j := fun j h => absurd h (by omega)
theorem sn {P : Nat → Prop} {n : Nat} (h : ∀ j, j < n → P j) (k : P n) : ∀ j, j < n + 1 → P j := fun j hj => by
  by_cases hn : j = n
  · subst hn; exact k
  · exact h j (by omega)

theorem mk_data {g r : Nat} {eP : Env} {HP : Heap} {π : List Nat} {all : V} {M : Nat} {dead : Nat → List V}
    (ha : pA g r = true) (hc : pC g r π eP HP = true) (hk : closedB HP = true) (hb : ∀ j, j < M → bo eP HP all (dead j) j = gh HP)
    (ht : pT eP HP = true) (h8 : eP.getD 8 V.undef = all) (hl : pL eP HP all M = true) (h0 : 0 < M) : StData g r eP HP π all M dead := by
  unfold pL at hl
  simp only [Bool.and_eq_true] at hl
  obtain ⟨⟨⟨q1, q2⟩, q3⟩, q4⟩ := hl
  refine ⟨ha, hc, hk, hb, ht, Nat.eq_of_beq_eq_true q1, fun t ht => ?_, h8, ?_, h0, ?_⟩
  · have := List.all_eq_true.1 q2 t ht
    split at this
    · rename_i v hv
      rw [hv, V.beq_eq _ _ this]
    · simp at this
  · split at q4
    · rename_i m hm
      rw [hm, Nat.eq_of_beq_eq_true q4]
    · simp at q4
  · split at q3
    · rename_i v hv
      rw [hv, V.beq_eq _ _ q3]
    · simp at q3

end Go.PE
