/- GroupStray's classes: what is known of the numbers and of the operation. -/
import Derived.Test.YtcgjkbnijnefjaaGreatDoorSrM
namespace Go.PE
open Go.Proofs
set_option maxRecDepth 100000
def z0 : List V := [(qi 0), (qi 0), (qb 0), (qw 0), qf, qs, qs, qs, qs, qf, qs, qs, qs, qs, qf, qs, qs, qs, qs, qf, qs, qs, qs, qs, qf, qs, qs, qs, qs, qf, qs, qs, qs, qs, (qw 0), (qb 0), qs, (qw 0), (qb 0), qs, (qw 0), (qb 0), qs, (qw 0), (qw 0), (qb 0), (qw 0), (qb 0), (qb 0), (qb 0), qs, .emp0, (qw 1), (.slice 14 0 0 3 1 none), qf, qf, qf, qf, qf, qf, qf, qf, qf, qf, (qw 0), qf, qs, qs, qs, qs, qf, qs, qs, qs, qs, qf, qs, qs, qs, qs, qf, qs, qs, qs, qs, qf, qs, qs, qs, qs, qf, qs, qs, qs, qs, (qw 0), (qb 0), qs, (qw 0), (qb 0), qs, (qw 0), (qb 0), qs, (qw 0), (qw 0), (qb 0), (qw 0), (qb 0), (qb 0), (qb 0), qs, .nils, (qw 0), qf, qs, qs, qs, qs, qf, qs, qs, qs, qs, qf, qs, qs, qs, qs, qf, qs, qs, qs, qs, qf, qs, qs, qs, qs, qf, qs, qs, qs, qs, (qw 0), (qb 0), qs, (qw 0), (qb 0), qs, (qw 0), (qb 0), qs, (qw 0), (qw 0), (qb 0), (qw 0), (qb 0), (qb 0), (qb 0), qs, .nils, (qw 0), qf, qs, qs, qs, qs, qf, qs, qs, qs, qs, qf, qs, qs, qs, qs, qf, qs, qs, qs, qs, qf, qs, qs, qs, qs, qf, qs, qs, qs, qs, (qw 0), (qb 0), qs, (qw 0), (qb 0), qs, (qw 0), (qb 0), qs, (qw 0), (qw 0), (qb 0), (qw 0), (qb 0), (qb 0), (qb 0), qs, .nils, (qw 0), qf, qs, qs, qs, qs, qf, qs, qs, qs, qs, qf, qs, qs, qs, qs, qf, qs, qs, qs, qs, qf, qs, qs, qs, qs, qf, qs, qs, qs, qs, (qw 0), (qb 0), qs, (qw 0), (qb 0), qs, (qw 0), (qb 0), qs, (qw 0), (qw 0), (qb 0), (qw 0), (qb 0), (qb 0), (qb 0), qs, .nils, (qw 0), qf, qs, qs, qs, qs, qf, qs, qs, qs, qs, qf, qs, qs, qs, qs, qf, qs, qs, qs, qs, qf, qs, qs, qs, qs, qf, qs, qs, qs, qs, (qw 0), (qb 0), qs, (qw 0), (qb 0), qs, (qw 0), (qb 0), qs, (qw 0), (qw 0), (qb 0), (qw 0), (qb 0), (qb 0), (qb 0), qs, .nils, .nils, (qb 0), (qw 0), (qb 0), (qb 0), (qb 0), qs, (qb 0), qs, (qw 0), qf, qf, qf, qf, qf, (qb 0), (qw 0), (qb 0), (qb 0), (qb 0), qs, (qb 0), qs, (qw 0), qf, qf, qf, qf, qf, (qb 0), (qw 0), (qb 0), (qb 0), (qb 0), qs, (qb 0), qs, (qw 0), qf, qf, qf, qf, qf]

def nC : V := .abs .u8 ⟨some 0, 0, 1, 3, 1, 0⟩
def nS : V := .abs .u32 ⟨some 1, 0, 1, 4294967295, 1, 0⟩
def nA : V := .abs .u8 ⟨some 2, 0, 0, 255, 1, 0⟩
def nO : V := .abs .u8 ⟨some 3, 0, 0, 5, 1, 0⟩
def nD : V := .syms 0 0 16
/-- Operations that write, by their kind and their object. -/
def co (k o : Nat) : List V := match k with
  | 0 => [nC, nS, qb 1, qb (Int.ofNat o), nA, nD]
  | 1 => [nC, nS, qb 3, qb (Int.ofNat o), nA, nD]
  | 2 => [nC, nS, qb 2, qb (Int.ofNat o), nA, qs]
  | _ => [nC, nS, qb 4, qb (Int.ofNat o), qb 0, qs]
def vf (f : Nat) : V := modV .u8 5 f
/-- An epoch: its remainder is nought, or it isn't. -/
def ve (z : Bool) : V := .abs .u32 ⟨none, 0, 0, 4294967295, 60, cond z 0 60⟩

def aB : V := .abs .u8 ⟨none, 0, 0, 255, 1, 0⟩
def aW : V := .abs .u32 ⟨none, 0, 0, 4294967295, 1, 0⟩
def hB (l h : Int) : V := .abs .u8 ⟨none, 0, l, h, 1, 0⟩
/-- Operations that don't write. -/
def noW : List (List V) := [
  [qb 0, aW, aB, aB, aB, .syms 0 0 9223372036854775807],
  [hB 4 255, aW, aB, aB, aB, .syms 0 0 9223372036854775807],
  [nC, qw 0, aB, aB, aB, .syms 0 0 9223372036854775807],
  [nC, nS, aB, hB 6 255, aB, .syms 0 0 9223372036854775807],
  [nC, nS, aB, nO, aB, .syms 0 17 9223372036854775807],
  [nC, nS, qb 0, nO, aB, .syms 0 0 16],
  [nC, nS, hB 6 255, nO, aB, .syms 0 0 16],
  [nC, nS, qb 2, nO, aB, .syms 0 1 16],
  [nC, nS, qb 4, nO, hB 1 255, .syms 0 0 16],
  [nC, nS, qb 4, nO, qb 0, .syms 0 1 16],
  [nC, nS, qb 5, nO, hB 1 255, .syms 0 0 16],
  [nC, nS, qb 5, nO, qb 0, .syms 0 1 16],
  [nC, nS, qb 5, nO, qb 0, qs]]
noncomputable def eI (co : List V) : Env := [aB, aB, aW, .agg co] ++ uA

theorem noW_all : (noW.all fun co => rI (eI co)) = true := by kernel_rfl
theorem co_all : ((List.range 4).all fun k => (List.range 6).all fun o => rA (co k o)) = true := by kernel_rfl

end Go.PE
