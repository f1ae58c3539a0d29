/- GroupReads: from a group's data to the call, at every input of the group. -/
import Derived.Test.YtcmcijlbmkllpaaGreatDoorRdM
import Derived.Test.YtcmcijlbmkllpaaGreatDoorEF
import Derived.KernelRfl
namespace Go.PE
open Go.Proofs Go.RowKit
set_option maxRecDepth 100000

theorem begunCode : codeOk (moS rdMoB) (remOp rdMoB []) (moMv rdMoB) lit7.body = true := by kernel_rfl
theorem begunRes : lit7.results.all (resOk (moS rdMoB)) = true := by kernel_rfl
theorem begunAt : litF 7 = some lit7 := by kernel_rfl
theorem T2_begun (args : List V) : T2 7 args = none := rfl
theorem rdPre_ok : codeOk (moS rdMo) (remOp rdMo [(7, 4)]) (pinMv rdMo [1]) (app rdPre .skip) = true := by kernel_rfl

theorem begun_alike (X : Ctx) (a a' : Int) (y : V) (H : Heap) (h0 : 0 ≤ a) (h1 : a < 256) (h0' : 0 ≤ a') (h1' : a' < 256) (h : a.tmod 4 = a'.tmod 4) : evalFunc X 3000 lit7 [.int .u8 a, y] H = evalFunc X 3000 lit7 [.int .u8 a', y] H := by
  have hok := remOp_ok (mo := rdMoB) (calls := []) (X := X) (fun p hp => by simp at hp)
  have hargs : ∀ n, Ag (moS rdMoB) (modM rdMoB) ([.int .u8 a, y] ++ List.replicate n V.undef) ([.int .u8 a', y] ++ List.replicate n V.undef) := ag_args rfl fun n hn => by
    match n, hn with
    | 0, _ => exact .inr ⟨.u8, 4, a, a', rfl, rfl, rfl, h0, h1, h0', h1', h⟩
    | 1, _ => rfl
  exact ag_func (S := moS rdMoB) (M := modM rdMoB) (X := X) (ok := remOp rdMoB []) (mv := moMv rdMoB) hok moMv_ok 3000 (f := lit7) begunCode begunRes (args := [.int .u8 a, y]) (args' := [.int .u8 a', y]) rfl hargs H

theorem rdMo_in (j : Nat) : moS rdMo j = rdIn.contains j := by
  unfold moS rdMo rdIn
  by_cases h0 : j = 0
  · subst h0; rfl
  · by_cases h1 : j = 16
    · subst h1; rfl
    · by_cases h2 : j = 1
      · subst h2; rfl
      · by_cases h3 : j = 2
        · subst h3; rfl
        · by_cases h4 : j = 31
          · subst h4; rfl
          · simp [h0, h1, h2, h3, h4]

theorem rd_fn : Tryz.prog.funcs[3]? = some Tryz.f3 := Tryz.func3
theorem rd_lit : cFunc Tryz.prog Tryz.f3 = some lit3 := by
  have h := lit3_ok
  unfold funcE at h
  split at h
  · rw [rd_fn] at h; exact h
  · simp at h

variable {G : HeapS} {g : Int} {eP : Nat → Env} {piP : Nat → List Nat} {eB : Env} {hB : Heap} {eK : Nat → Env} {hK : Nat → Heap} {piK : Nat → List Nat}

theorem RdData.calls (D : RdData G g eP piP eB hB eK hK piK) {a b c : Int} (ha : 0 ≤ a ∧ a < 256) (hb : 0 ≤ b ∧ b < 256) (hc : 0 ≤ c ∧ c < 256) (hg : 0 ≤ g ∧ g < 256) (hga : g.tmod 4 = a.tmod 4) {w : Nat} (hw : w < 5) (hwc : ((w : Nat) : Int).tmod 5 = c.tmod 5)
    {n : Nat} (hn : b.tmod 12 = n) (hn12 : n < 12) (W : World) : Calls Tryz.prog 3 #[.int .u8 a, .int .u8 b, .int .u8 c] W fun e W' => e = .returned (.bool true) ∧ Below W.heap.size W W' := by
  have hcalls : ∀ p ∈ [((7 : FuncId), (4 : Int))], ∀ (x x' : Int) (y : V) (H : Heap), 0 ≤ x → x < 256 → 0 ≤ x' → x' < 256 → x.tmod p.2 = x'.tmod p.2 →
      ctxE litF (shortE T2 G) 3000 40 p.1 [.int .u8 x, y] H = ctxE litF (shortE T2 G) 3000 40 p.1 [.int .u8 x', y] H := by
    intro p hp x x' y H h0 h1 h2 h3 h
    simp only [List.mem_singleton] at hp
    subst hp
    rw [ctxE_open (short_none T2_begun D.begun) begunAt, ctxE_open (short_none T2_begun D.begun) begunAt]
    exact begun_alike _ x x' y H h0 h1 h2 h3 h
  have hin : ∀ j, moS rdMo j = true → j ∈ rdIn := fun j hj => by rw [rdMo_in, List.contains_iff_mem] at hj; exact hj
  have ha0 := ag_args (mo := rdMo) (l := [.int .u8 g, .int .u8 0, .int .u8 ((w : Nat) : Int)]) (l' := [.int .u8 a, .int .u8 b, .int .u8 c]) rfl (fun m hm => by
    match m, hm with
    | 0, _ => exact .inr ⟨.u8, 4, g, a, rfl, rfl, rfl, hg.1, hg.2, ha.1, ha.2, hga⟩
    | 1, _ => exact .inr ⟨.u8, 1, 0, b, rfl, rfl, rfl, by decide, by decide, hb.1, hb.2, by rw [Int.tmod_one, Int.tmod_one]⟩
    | 2, _ => exact .inr ⟨.u8, 5, ((w : Nat) : Int), c, rfl, rfl, rfl, by omega, by omega, hc.1, hc.2, hwc⟩) 136
  have hag : Ag (moS rdMo) (pinM rdMo [1] fun _ => .int .u8 b) ([.int .u8 g, .int .u8 0, .int .u8 ((w : Nat) : Int)] ++ List.replicate 136 V.undef) ([.int .u8 a, .int .u8 b, .int .u8 c] ++ List.replicate 136 V.undef) :=
    ⟨ha0.len, ha0.same, fun m hm => ⟨ha0.rel m hm, fun h1 => by simp only [List.mem_singleton] at h1; subst h1; rfl⟩⟩
  have hnum : ∀ j, moS rdMo j = true → numB ((eP w).getD j V.undef) = true := fun j hj => List.all_eq_true.1 (D.num w hw) j (hin j hj)
  obtain ⟨e', H', g1, g2⟩ := good_start (P := Tryz.prog) (mo := rdMo) (pin := [1]) (pv := fun _ => .int .u8 b) (calls := [(7, 4)]) tryzMixed D.all hcalls rdPre_ok (D.pre w hw) hnum hag
    (r := .seq (.seq rdK (.block 0 (.loop (.seq rdCond rdBlk)))) rdPost) (ex := .ret) (Q := fun e' => e'.getD 6 V.undef = .bool true) (fun σ hσ hpin => by
      obtain ⟨hal, hag2⟩ := agreeB_ok (D.agree w hw)
      have hov := over_of (S := fun j => (rdTest ++ rdWho).contains j) (e := eB) (e0 := eP w) hal (fun m hm => hag2 m hm)
      rw [hov, over_over]
      have hS : (fun j => moS rdMo j || (rdTest ++ rdWho).contains j) = rdS := by
        funext j
        rw [rdMo_in]
        simp only [rdS, List.contains_eq_mem, List.mem_append]
        simp
      rw [hS]
      refine D.rest hw hb.1 hn hn12 ⟨fun j hj => ?_, fun j hj => ?_, fun j hj hni => ?_, ?_⟩
      · have hm : moS rdMo j = true := by rw [rdMo_in, List.contains_iff_mem]; exact hj
        simp only [hm, if_true]
        exact hσ j hm
      · have hm : moS rdMo j = false := by
          rw [rdMo_in]
          simp only [rdTest, List.mem_cons, List.not_mem_nil, or_false] at hj
          rcases hj with rfl | rfl | rfl <;> rfl
        simp only [hm, Bool.false_eq_true, if_false]
        exact numB_rigid (List.all_eq_true.1 (D.test w hw) j hj)
      · have hm : moS rdMo j = false := by
          rw [rdMo_in]
          cases hc : rdIn.contains j with
          | false => rfl
          | true => rw [List.contains_iff_mem] at hc; exact absurd hc hni
        simp only [hm, Bool.false_eq_true, if_false]
      · have hm : moS rdMo 1 = true := rfl
        simp only [hm, if_true]
        exact hpin 1 hm (by simp))
  refine good_calls rd_fn rd_lit (t := 6) rfl (.cons (.int _ _) (.cons (.int _ _) (.cons (.int _ _) .nil))) (show 3 ≤ 139 by decide) (.inr rfl) (e' := e') (H' := H') ?_ g2 W
  rw [rd_body]
  exact g1

end Go.PE
