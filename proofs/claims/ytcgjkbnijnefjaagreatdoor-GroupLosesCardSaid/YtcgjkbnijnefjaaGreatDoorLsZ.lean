/- Rows that GroupLoses' states share. -/
import Derived.Test.YtcgjkbnijnefjaaGreatDoorLsN
namespace Go.PE
open Go.Proofs
set_option maxRecDepth 100000
def qn : V := .syms 0 0 16
def z0 : List V := [(qi 0), (qi 0), (qb 0), (qw 0), qf, qs, qs, qs, qs, qf, qs, qs, qs, qs, qf, qs, qs, qs, qs, qf, qs, qs, qs, qs, qf, qs, qs, qs, qs, qf, qs, qs, qs, qs, (qw 0), (qb 0), qs, (qw 0), (qb 0), qs, (qw 0), (qb 0), qs, (qw 0), (qw 0), (qb 0), (qw 0), (qb 0), (qb 0), (qb 0), qs, .emp0, (qw 1), (.slice 17 0 0 3 1 none), qf, qf, qf, qf, qf, qf, qf, qf, qf, qf, (qw 0), qf, qs, qs, qs, qs, qf, qs, qs, qs, qs, qf, qs, qs, qs, qs, qf, qs, qs, qs, qs, qf, qs, qs, qs, qs, qf, qs, qs, qs, qs, (qw 0), (qb 0), qs, (qw 0), (qb 0), qs, (qw 0), (qb 0), qs, (qw 0), (qw 0), (qb 0), (qw 0), (qb 0), (qb 0), (qb 0), qs, .nils, (qw 0), qf, qs, qs, qs, qs, qf, qs, qs, qs, qs, qf, qs, qs, qs, qs, qf, qs, qs, qs, qs, qf, qs, qs, qs, qs, qf, qs, qs, qs, qs, (qw 0), (qb 0), qs, (qw 0), (qb 0), qs, (qw 0), (qb 0), qs, (qw 0), (qw 0), (qb 0), (qw 0), (qb 0), (qb 0), (qb 0), qs, .nils, (qw 0), qf, qs, qs, qs, qs, qf, qs, qs, qs, qs, qf, qs, qs, qs, qs, qf, qs, qs, qs, qs, qf, qs, qs, qs, qs, qf, qs, qs, qs, qs, (qw 0), (qb 0), qs, (qw 0), (qb 0), qs, (qw 0), (qb 0), qs, (qw 0), (qw 0), (qb 0), (qw 0), (qb 0), (qb 0), (qb 0), qs, .nils, (qw 0), qf, qs, qs, qs, qs, qf, qs, qs, qs, qs, qf, qs, qs, qs, qs, qf, qs, qs, qs, qs, qf, qs, qs, qs, qs, qf, qs, qs, qs, qs, (qw 0), (qb 0), qs, (qw 0), (qb 0), qs, (qw 0), (qb 0), qs, (qw 0), (qw 0), (qb 0), (qw 0), (qb 0), (qb 0), (qb 0), qs, .nils, (qw 0), qf, qs, qs, qs, qs, qf, qs, qs, qs, qs, qf, qs, qs, qs, qs, qf, qs, qs, qs, qs, qf, qs, qs, qs, qs, qf, qs, qs, qs, qs, (qw 0), (qb 0), qs, (qw 0), (qb 0), qs, (qw 0), (qb 0), qs, (qw 0), (qw 0), (qb 0), (qw 0), (qb 0), (qb 0), (qb 0), qs, .nils, .nils, (qb 0), (qw 0), (qb 0), (qb 0), (qb 0), qs, (qb 0), qs, (qw 0), qf, qf, qf, qf, qf, (qb 0), (qw 0), (qb 0), (qb 0), (qb 0), qs, (qb 0), qs, (qw 0), qf, qf, qf, qf, qf, (qb 0), (qw 0), (qb 0), (qb 0), (qb 0), qs, (qb 0), qs, (qw 0), qf, qf, qf, qf, qf]
def zq : List V := [(qb 7), (qb 14), (qb 10), (qw 1), (qw 0), (qb 0), (qw 0), (qb 0), qf, (qb 0), (qb 0), (qi 0), (qb 0), (qw 0), qf, qs, qs, qs, qs, qf, qs, qs, qs, qs, qf, qs, qs, qs, qs, qf, qs, qs, qs, qs, qf, qs, qs, qs, qs, qf, qs, qs, qs, qs, (qw 0), (qb 0), qs, (qw 0), (qb 0), qs, (qw 0), (qb 0), qs, (qw 0), (qw 0), (qb 0), (qw 0), (qb 0), (qb 0), (qb 0), qs, .nils, (qi 0), (qw 0), .nils, (qw 0), qf, qs, qs, qs, qs, qf, qs, qs, qs, qs, qf, qs, qs, qs, qs, qf, qs, qs, qs, qs, qf, qs, qs, qs, qs, qf, qs, qs, qs, qs, (qw 0), (qb 0), qs, (qw 0), (qb 0), qs, (qw 0), (qb 0), qs, (qw 0), (qw 0), (qb 0), (qw 0), (qb 0), (qb 0), (qb 0), qs, .nils, (qw 0), (qw 0), (qb 0), (qw 0), (qb 0), (qb 0), (qb 0), qs, (qw 0), (qb 0), (qw 0), (qb 0), (qb 0), (qb 0), qs, (qb 0), qs]
noncomputable def z2m : List V := patch [(0, (qb 8)), (0, (qb 10)), (0, (qb 14)), (58, .emp0)] zq
noncomputable def z3m : List V := patch [(0, (qb 9)), (1, (qb 12)), (62, (qw 1))] zq
noncomputable def z4m : List V := patch [(0, (qb 10)), (0, (qb 12)), (0, (qb 14))] zq
noncomputable def z5m : List V := patch [(0, (qb 11)), (1, (qb 12)), (111, (qw 1)), (0, (qw 1)), (0, (qb 1)), (0, (qw 1)), (0, (qb 1)), (2, qn)] zq
noncomputable def z6m : List V := patch [(0, (qb 12)), (0, (qb 12)), (0, (qb 14)), (119, (qw 1))] zq
noncomputable def z7m : List V := patch [(0, (qb 16)), (1, (qb 21)), (0, (qw 0)), (119, (qb 1)), (0, (qw 1)), (0, (qb 1)), (2, qn)] zq
def bx (l : List V) : Box := .cells l 0 0
def pg (n : Nat) : V := .ptr n 0 0 352
def sa (b : Nat) : V := .slice b 0 0 3 1 none
def sm (b v n : Nat) : V := .slice b v 0 n 131 none
def se (b n : Nat) : V := .slice b 0 0 n 8 none
def hH : Heap := [bx [(.map 2), (.map 3), (qw 1), (.slice 4 0 0 1 2 none), (.slice 6 0 0 1 2 none), (.slice 8 0 0 1 2 none), (.slice 10 0 0 1 2 none)], (.map [((qw 1), (.agg [(qw 1), qt, (qi 8), (qb 0), qt, (qi 8), (qb 1), qt, (qi 8), (qb 2), qt, (qi 8), (qb 3), qt, (qi 8), (qb 0)]), 0)] 1), (.map [] 0), bx [(qw 1), (.slice 5 2 0 3 1 none)], .cells [(qi 4), (qi 3), (qi 2)] 2 0, bx [(qw 1), (.slice 7 2 0 3 1 none)], .cells [(qi 2), (qi 3), (qi 0)] 2 0, bx [(qw 1), (.slice 9 2 0 3 1 none)], .cells [(qi 4), (qi 2), (qi 3)] 2 0, bx [(qw 1), (.slice 11 2 0 3 1 none)], .cells [(qi 3), (qi 2), (qi 4)] 2 0]
/-- The n-th box of a table; none. -/
def nb (l : List Box) : Nat → Box
  | 0 => bx []
  | n + 1 => match l[n]? with | some b => b | none => bx []
def nn (l : List Nat) (i : Nat) : Nat := match l[i]? with | some n => n | none => 0
def at3 (l : List (Nat × Nat × Nat)) (i : Nat) : Nat × Nat × Nat := match l[i]? with | some p => p | none => (0, 0, 0)
theorem chunks {p : Nat → Bool} {k : Nat} : ∀ {n : Nat}, (∀ i, i < n → ((List.range' (k * i) k).all p) = true) → ∀ s, s < k * n → p s = true := by
  intro n h s hs
  by_cases hk : k = 0
  · subst hk; omega
  · have h1 := h (s / k) (Nat.div_lt_of_lt_mul hs)
    refine List.all_eq_true.1 h1 s (List.mem_range'_1.2 ⟨Nat.mul_div_le s k, ?_⟩)
    have := Nat.mod_lt s (Nat.pos_of_ne_zero hk)
    have := Nat.div_add_mod s k
    omega
end Go.PE
