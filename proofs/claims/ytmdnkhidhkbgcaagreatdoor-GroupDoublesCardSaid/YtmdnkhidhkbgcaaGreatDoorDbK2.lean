/- What is known without a look into it: straw.Draw at the table's numbers, 'known', slices.AppendSeq. -/
import Derived.Test.YtmdnkhidhkbgcaaGreatDoorDbK1
import Derived.Test.YtmdnkhidhkbgcaaGreatDoorDbW2
import Derived.Test.YtmdnkhidhkbgcaaGreatDoorDbW3
import Derived.KernelRfl
namespace Go.PE
open Go.Proofs
set_option maxRecDepth 100000
def TR0 (f : FuncId) (args : List V) : Option V := cond (Nat.beq f 197) (repV args) none
theorem TR0_ok (f : FuncId) : CallOK Tryz.prog f fun args H => (TR0 f args).map fun v => (v, H) := by
  by_cases hf : Nat.beq f 197 = true
  · have := Nat.eq_of_beq_eq_true hf
    subst this
    intro R H H' w args args' v hv
    simp only [TR0, hf, cond_true] at hv
    exact rep_ok R H H' w args args' v hv
  · have hf : Nat.beq f 197 = false := Bool.eq_false_iff.2 hf
    intro R H H' w args args' v hv
    simp only [TR0, hf, cond_false, Option.map_none, reduceCtorEq] at hv
def T0 (f : FuncId) (args : List V) : Option V := cond (Nat.beq f 193) (tabE drawT args) (TR0 f args)
theorem T0_ok (f : FuncId) : CallOK Tryz.prog f fun args H => (T0 f args).map fun v => (v, H) :=
  tab1_ok (ctxE_ok tryzMixed litF_ok (shortE_ok none_ok noneG_ok) 3000 40 193) draw_alone TR0_ok f
noncomputable def ctx1 : CtxK := ctxS DTs T0 (appSeqG 149 100) 40
noncomputable def law1 : Ctx := ctxE litF (shortE T0 (appSeqG 149 100)) 3000 40
theorem law1_sim : Sim ctx1 law1 := ctxS_simK DTs_ok 40
theorem law1_ok (f : FuncId) : CallOK Tryz.prog f (law1 f) := ctxE_ok tryzMixed litF_ok (shortE_ok T0_ok appSeq_ok) 3000 40 f
def knownT : List (List V × V) := [([], .bool true)]
theorem known_all : (knownT.all fun p => V.plainL p.1 && V.plain p.2 && match ctx1 6 p.1 ⟨.nil, 0⟩ with | some q => V.beq q.1 p.2 | none => false) = true := by kernel_rfl
theorem known_alone : ∀ p ∈ knownT, alone (law1 6) p.1 = some p.2 := by
  intro p hp
  have h := List.all_eq_true.1 known_all p hp
  simp only [Bool.and_eq_true] at h
  exact alone_of_sim law1_sim h.2 h.1.1 h.1.2
def T2 (f : FuncId) (args : List V) : Option V := cond (Nat.beq f 6) (tabE knownT args) (T0 f args)
theorem T2_ok (f : FuncId) : CallOK Tryz.prog f fun args H => (T2 f args).map fun v => (v, H) := tab1_ok (law1_ok 6) known_alone T0_ok f
noncomputable def ctx2 : CtxK := ctxS DTs T2 (appSeqG 149 100) 40
noncomputable def law2 : Ctx := ctxE litF (shortE T2 (appSeqG 149 100)) 3000 40
theorem law2_sim : Sim ctx2 law2 := ctxS_simK DTs_ok 40
theorem law2_ok (f : FuncId) : CallOK Tryz.prog f (law2 f) := ctxE_ok tryzMixed litF_ok (shortE_ok T2_ok appSeq_ok) 3000 40 f
end Go.PE
