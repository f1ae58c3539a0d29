/- What is known without a look into it: straw.Draw at the table's numbers, 'known', slices.AppendSeq; and that GroupCap answers alike at alike remainders. -/
import Derived.Test.YtbpkjhamidpoeaaGreatDoorK1
import Derived.Test.YtbpkjhamidpoeaaGreatDoorW2
import Derived.Test.YtbpkjhamidpoeaaGreatDoorV5
import Derived.Test.YtbpkjhamidpoeaaGreatDoorE31
import Derived.KernelRfl
namespace Go.PE
open Go.Proofs
set_option maxRecDepth 100000

theorem tab1_ok {f0 : FuncId} {T : List (List V × V)} {P : Program} {F : List V → Heap → Option (V × Heap)} (h : CallOK P f0 F) (hT : ∀ p ∈ T, alone F p.1 = some p.2) {T' : FuncId → List V → Option V}
    (hT' : ∀ f, CallOK P f fun args H => (T' f args).map fun v => (v, H)) (f : FuncId) : CallOK P f fun args H => ((fun f args => cond (Nat.beq f f0) (tabE T args) (T' f args)) f args).map fun v => (v, H) := by
  by_cases hf : Nat.beq f f0 = true
  · have := Nat.eq_of_beq_eq_true hf
    subst this
    intro R H H' w args args' v hv
    simp only [hf, cond_true] at hv
    exact tab_ok h hT R H H' w args args' v hv
  · have hf : Nat.beq f f0 = false := Bool.eq_false_iff.2 hf
    intro R H H' w args args' v hv
    simp only [hf, cond_false] at hv
    exact hT' f R H H' w args args' v hv

theorem none_ok {P : Program} (f : FuncId) : CallOK P f fun args H => ((fun (_ : FuncId) (_ : List V) => (none : Option V)) f args).map fun v => (v, H) := by
  intro R H H' w args args' v h
  simp at h

theorem noneG_ok {P : Program} (f : FuncId) : CallOK P f (heapE (fun _ _ _ _ => none) f) := by
  intro R H H' w args args' v h
  simp [heapE] at h

/-- straw.Draw by its table. -/
def T0 (f : FuncId) (args : List V) : Option V := cond (Nat.beq f 179) (tabE drawT args) ((fun (_ : FuncId) (_ : List V) => (none : Option V)) f args)

theorem T0_ok (f : FuncId) : CallOK Tryz.prog f fun args H => (T0 f args).map fun v => (v, H) :=
  tab1_ok (ctxE_ok tryzMixed (fun _ _ h => h) (shortE_ok none_ok noneG_ok) 3000 40 179) draw_alone none_ok f

noncomputable def ctx1 : CtxK := ctxH litF T0 (appSeqG 143 102) 3000 40

def knownT : List (List V × V) := [([], .bool true)]

theorem known_all : (knownT.all fun p => V.plainL p.1 && V.plain p.2 && match ctx1 4 p.1 ⟨.nil, 0⟩ with | some q => V.beq q.1 p.2 | none => false) = true := by kernel_rfl

theorem known_alone : ∀ p ∈ knownT, alone (ctxE litF (shortE T0 (appSeqG 143 102)) 3000 40 4) p.1 = some p.2 := by
  intro p hp
  have h := List.all_eq_true.1 known_all p hp
  simp only [Bool.and_eq_true] at h
  exact alone_of_ctxH h.2 h.1.1 h.1.2

/-- .. and 'known'. -/
def T2 (f : FuncId) (args : List V) : Option V := cond (Nat.beq f 4) (tabE knownT args) (T0 f args)

theorem T2_ok (f : FuncId) : CallOK Tryz.prog f fun args H => (T2 f args).map fun v => (v, H) :=
  tab1_ok (ctxE_ok tryzMixed litF_ok (shortE_ok T0_ok appSeq_ok) 3000 40 4) known_alone T0_ok f

noncomputable def ctx2 : CtxK := ctxH litF T2 (appSeqG 143 102) 3000 40

noncomputable def law2 : Ctx := ctxE litF (shortE T2 (appSeqG 143 102)) 3000 40

theorem law2_ok (f : FuncId) : CallOK Tryz.prog f (law2 f) := ctxE_ok tryzMixed litF_ok (shortE_ok T2_ok appSeq_ok) 3000 40 f

/-! ### alike remainders -/

def mo5 (n : Nat) : Option Int := if n = 0 then some 4 else if n = 8 then some 4 else none
def mo3 (n : Nat) : Option Int := if n = 0 then some 4 else if n = 17 then some 4 else if n = 1 then some 6 else if n = 30 then some 6 else none

theorem code5 : codeOk (moS mo5) (remOp mo5 []) (moMv mo5) lit5.body = true := by kernel_rfl
theorem res5 : lit5.results.all (resOk (moS mo5)) = true := by kernel_rfl
theorem code3 : codeOk (moS mo3) (remOp mo3 [(5, 4)]) (moMv mo3) lit3.body = true := by kernel_rfl
theorem res3 : lit3.results.all (resOk (moS mo3)) = true := by kernel_rfl
theorem lit5_at : litF 5 = some lit5 := by kernel_rfl
theorem lit3_at : litF 3 = some lit3 := by kernel_rfl

theorem short_none {f : FuncId} (h1 : Nat.beq f 4 = false) (h2 : Nat.beq f 179 = false) (h3 : Nat.beq f 143 = false) (args : List V) (H : Heap) : shortE T2 (appSeqG 143 102) f args H = none := by
  simp only [shortE, T2, T0, heapE, appSeqG, h1, h2, h3, cond_false, Option.map_none]

/-- What a function that has no shortcut answers, told by its own code. -/
theorem ctxE_open {f : FuncId} {ef : EFunc} (h1 : Nat.beq f 4 = false) (h2 : Nat.beq f 179 = false) (h3 : Nat.beq f 143 = false) (hf : litF f = some ef) (d : Nat) (args : List V) (H : Heap) :
    ctxE litF (shortE T2 (appSeqG 143 102)) 3000 (d + 1) f args H = evalFunc (ctxE litF (shortE T2 (appSeqG 143 102)) 3000 d) 3000 ef args H := by
  simp only [ctxE, short_none h1 h2 h3, hf]

theorem ag_args {mo : Nat → Option Int} {l l' : List V} (hl : l.length = l'.length) (h : ∀ n, n < l.length → if moS mo n = true then modM mo n (l.getD n V.undef) (l'.getD n V.undef) else l.getD n V.undef = l'.getD n V.undef) (k : Nat) :
    Ag (moS mo) (modM mo) (l ++ List.replicate k V.undef) (l' ++ List.replicate k V.undef) := by
  have g : ∀ (m : List V) (n : Nat), (m ++ List.replicate k V.undef).getD n V.undef = m.getD n V.undef := by
    intro m n
    rw [List.getD_eq_getElem?_getD, List.getD_eq_getElem?_getD, List.getElem?_append]
    split
    · rfl
    · rename_i c
      rw [List.getElem?_eq_none (l := m) (by omega)]
      by_cases c2 : n - m.length < k
      · rw [List.getElem?_replicate, if_pos c2]; rfl
      · rw [List.getElem?_replicate, if_neg c2]
  have out : ∀ n, ¬ n < l.length → l.getD n V.undef = l'.getD n V.undef := by
    intro n hn
    rw [List.getD_eq_getElem?_getD, List.getD_eq_getElem?_getD, List.getElem?_eq_none (by omega), List.getElem?_eq_none (by omega)]
  refine ⟨by simp [hl], fun n hn => ?_, fun n hn => ?_⟩
  · rw [g, g]
    by_cases c : n < l.length
    · have := h n c
      rw [hn] at this
      simpa using this
    · exact out n c
  · rw [g, g]
    by_cases c : n < l.length
    · have := h n c
      rw [hn] at this
      simpa using this
    · exact .inl (out n c)

theorem begun_alike (X : Ctx) (a a' : Int) (y : V) (H : Heap) (h : a.tmod 4 = a'.tmod 4) : evalFunc X 3000 lit5 [.int .u8 a, y] H = evalFunc X 3000 lit5 [.int .u8 a', y] H := by
  have hok := remOp_ok (mo := mo5) (calls := []) (X := X) (fun p hp => by simp at hp)
  have hargs : ∀ n, Ag (moS mo5) (modM mo5) ([.int .u8 a, y] ++ List.replicate n V.undef) ([.int .u8 a', y] ++ List.replicate n V.undef) := ag_args rfl fun n hn => by
    match n, hn with
    | 0, _ => exact .inr ⟨a, a', 4, rfl, rfl, rfl, h⟩
    | 1, _ => rfl
  exact ag_func (S := moS mo5) (M := modM mo5) (X := X) (ok := remOp mo5 []) (mv := moMv mo5) hok moMv_ok 3000 (f := lit5) code5 res5 (args := [.int .u8 a, y]) (args' := [.int .u8 a', y]) rfl hargs H

theorem law_alike (X : Ctx) (hX : ∀ (a a' : Int) (y : V) (H : Heap), a.tmod 4 = a'.tmod 4 → X 5 [.int .u8 a, y] H = X 5 [.int .u8 a', y] H) (a a' b b' : Int) (H : Heap) (h : a.tmod 4 = a'.tmod 4) (k : b.tmod 6 = b'.tmod 6) :
    evalFunc X 3000 lit3 [.int .u8 a, .int .u8 b] H = evalFunc X 3000 lit3 [.int .u8 a', .int .u8 b'] H := by
  have hok := remOp_ok (mo := mo3) (calls := [(5, 4)]) (X := X) (fun p hp => by
    simp only [List.mem_singleton] at hp
    subst hp
    exact hX)
  have hargs : ∀ n, Ag (moS mo3) (modM mo3) ([.int .u8 a, .int .u8 b] ++ List.replicate n V.undef) ([.int .u8 a', .int .u8 b'] ++ List.replicate n V.undef) := ag_args rfl fun n hn => by
    match n, hn with
    | 0, _ => exact .inr ⟨a, a', 4, rfl, rfl, rfl, h⟩
    | 1, _ => exact .inr ⟨b, b', 6, rfl, rfl, rfl, k⟩
  exact ag_func (S := moS mo3) (M := modM mo3) (X := X) (ok := remOp mo3 [(5, 4)]) (mv := moMv mo3) hok moMv_ok 3000 (f := lit3) code3 res3 (args := [.int .u8 a, .int .u8 b]) (args' := [.int .u8 a', .int .u8 b']) rfl hargs H

theorem begun_mod (d : Nat) (a a' : Int) (y : V) (H : Heap) (h : a.tmod 4 = a'.tmod 4) :
    ctxE litF (shortE T2 (appSeqG 143 102)) 3000 (d + 1) 5 [.int .u8 a, y] H = ctxE litF (shortE T2 (appSeqG 143 102)) 3000 (d + 1) 5 [.int .u8 a', y] H := by
  rw [ctxE_open rfl rfl rfl lit5_at, ctxE_open rfl rfl rfl lit5_at]
  exact begun_alike _ a a' y H h

/-- GroupCap answers alike at alike remainders. -/
theorem law_mod (a a' b b' : Int) (H : Heap) (h : a.tmod 4 = a'.tmod 4) (k : b.tmod 6 = b'.tmod 6) : law2 3 [.int .u8 a, .int .u8 b] H = law2 3 [.int .u8 a', .int .u8 b'] H := by
  unfold law2
  rw [ctxE_open rfl rfl rfl lit3_at, ctxE_open rfl rfl rfl lit3_at]
  exact law_alike _ (begun_mod 38) a a' b b' H h k

end Go.PE
