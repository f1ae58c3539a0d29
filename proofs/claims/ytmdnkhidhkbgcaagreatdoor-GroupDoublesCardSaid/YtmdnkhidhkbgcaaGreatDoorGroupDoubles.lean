/- The given statement on 'paddocklaw19.GroupDoubles' is proved: for every input the law returns true, and its arguments read behind the call as they read before; its tied card. Conditions: those of the given row and card, no others. -/
import Derived.Test.YtmdnkhidhkbgcaaGreatDoorRows
import Derived.Test.YtmdnkhidhkbgcaaGreatDoorTie
import Derived.Test.YtmdnkhidhkbgcaaGreatDoorCards
import Derived.Test.YtmdnkhidhkbgcaaGreatDoorDbT
import Derived.ProofKit
import Derived.LaidMore
import Derived.OpenShut
import Derived.Carry
import Derived.Stop.Joined
import Derived.SevenTiedAt
namespace Go.Proofs.YtmdnkhidhkbgcaaGreatDoor
open Go Go.ChangeShapes Go.WideShapes Go.ChangeAt Go.RowKit
set_option maxRecDepth 100000

theorem law_own : ownKnob Tryz.prog.godebug = none := by kernel_rfl

theorem law_door (os : Os) (args : Array Value) : laidMetH Tryz.prog Rows.groupDoublesRow.laid ((World.doorLaid Tryz.prog 24 os).forCall (fun _ _ => 0) ⟨#[], args, []⟩).memory := by
  rw [MakeChecks.laidMetH_plain _ _ _ (by kernel_rfl)]
  exact laidMet_of_run' 8 (by kernel_rfl) (by kernel_rfl)

theorem law_lifted (os : Os) (started : os.Started) (H : Type) (enc : TypeId × Value → H) :
    ReturnsInHanded {} Tryz.checked os 5 .any (fun w args => (Rows.groupDoublesSpec.pre enc Tryz.prog Tryz.f5 [] false w args ∧ laidMetH Tryz.prog Rows.groupDoublesRow.laid w) ∧ sizedMet enc Tryz.prog Tryz.f5 (OpenSpec.ofChange Rows.groupDoublesSpec) false w args)
      (Rows.groupDoublesSpec.post enc Tryz.prog Tryz.f5 false true false false) := by
  refine returnsInHanded_of_change_and (C := Tryz.checked) (X := fun w _ => laidMetH Tryz.prog Rows.groupDoublesRow.laid w) (fun _ _ _ hh h => h.of_heap hh) law_own started (by kernel_rfl) Tryz.func5
    (ChangeSpec.witness_shaped (enc := enc) (C := Tryz.checked) (os := os) (X := fun w _ => laidMetH Tryz.prog Rows.groupDoublesRow.laid w) false (World.doorLaid Tryz.prog 24 os) #[.int .u8 0, .int .u8 0, .slice none 0 0] 8 rfl (World.shaped_of_RefB (by kernel_rfl) (by kernel_rfl)) (by kernel_rfl) (by kernel_rfl) (by kernel_rfl) (law_door os _)) ?_
  intro W base args ds gs before hval0 hW _ _ _ _
  have hval : ∀ (j : Nat) t v, Tryz.f5.params[j]? = some t → args[j]? = some v → Value.okWide Tryz.prog W .any base t v := hval0
  have hW' := hW
  obtain ⟨p, q, hA0, hV, rfl, hfz, hnd⟩ := hW
  have hA : DataW.TrodAll enc Tryz.prog W 0 (fun _ => true) true Tryz.f5.params.toList args.toList ds p := hA0
  rw [Tryz.params5] at hA hval
  obtain ⟨v0, v1, v2, d0, d1, d2, p0, p1, p2, rfl, rfl, rfl, h0, h1, h2⟩ := trodAll_three hA
  obtain ⟨rfl, rfl⟩ := trodVars_none hV
  obtain ⟨a, rfl, rfl, rfl, wa⟩ := open_int Tryz.underlying5 (hval 0 5 v0 rfl rfl) h0
  obtain ⟨b, rfl, rfl, rfl, wb⟩ := open_int Tryz.underlying5 (hval 1 5 v1 rfl rfl) h1
  have hok := hval 2 23 v2 rfl rfl
  obtain ⟨a0, len, cap, rfl⟩ := okWide_slice Tryz.underlying23 hok
  have h2k := h2
  obtain ⟨fuel, hf⟩ := h2
  clear hA0 hval0
  simp only [List.append_nil] at hW'
  have na : 0 ≤ a ∧ a < 256 := by
    have h := wa
    simp only [Lit.wf, Bool.and_eq_true, decide_eq_true_eq] at h
    exact ⟨h.1, Int.lt_of_le_sub_one h.2⟩
  have nb : 0 ≤ b ∧ b < 256 := by
    have h := wb
    simp only [Lit.wf, Bool.and_eq_true, decide_eq_true_eq] at h
    exact ⟨h.1, Int.lt_of_le_sub_one h.2⟩
  have hlt : ∀ x ∈ p2, x.block < W.heap.size := fun x hx => by simpa using hW'.lt x (by simp [hx])
  have hargs : ∀ (W' : World), Below W.heap.size W W' → DataW.Trod enc Tryz.prog W' 0 (fun b => decide (b < W.heap.size)) true 23 (.slice a0 len cap) d2 p2 :=
    fun W' hn => Below.trod (by kernel_rfl) (by kernel_rfl) (of_decide_eq_true (by kernel_rfl)) h2k hn hlt
  have e1 : Rows.groupDoublesSpec.fn H ([.lit (.int .u8 a), .lit (.int .u8 b), d2] ++ []) = { results := [.lit (.bool true)], args := [.lit (.int .u8 a), .lit (.int .u8 b), d2] } := rfl
  have hc : Calls Tryz.prog 5 #[.int .u8 a, .int .u8 b, .slice a0 len cap] W fun e W' => e = .returned (.bool true) ∧ Below W.heap.size W W' := by
    rcases open_ints Tryz.underlying23 Tryz.underlying5 (by kernel_rfl) hf with ⟨hcs, _⟩ | ⟨ad, len', cap', zs, hcs, _, hl, hm, hz, hx, hcell, hwz⟩
    · simp [Value.cells] at hcs
      obtain ⟨rfl, rfl, rfl⟩ := hcs
      exact Go.PE.law_calls na nb Go.PE.Smalls.nil .nils
    · simp [Value.cells] at hcs
      obtain ⟨rfl, rfl, rfl⟩ := hcs
      simp only [if_true] at hz
      obtain ⟨bl, off, spot⟩ := ad
      have hs : spot = none := by
        simp only [Value.okWide, Tryz.underlying23, Cell.okWide, Cell.ok] at hok
        exact hok.2.2.2.1
      subst hs
      have ht : (zs.take len).length = len := by simp; omega
      have hbz : ∀ n ∈ zs.take len, 0 ≤ n ∧ n < 256 := fun n hn => by
        have h := hwz n (List.mem_of_mem_take hn)
        simp only [Lit.wf, Bool.and_eq_true, decide_eq_true_eq] at h
        exact ⟨h.1, Int.lt_of_le_sub_one h.2⟩
      refine Go.PE.law_calls na nb (Go.PE.Smalls.psl ht hbz) (Go.PE.VR.smalls hl fun i hi => ?_)
      have hi2 : i < len := by omega
      have hi3 : i < zs.length := by omega
      have h := hcell i hi3
      have e2 : (⟨bl, off, none⟩ : Addr).add i = ⟨bl, off + i, none⟩ := by
        unfold Addr.add
        split
        · rename_i h0; subst h0; rfl
        · rfl
      rw [e2] at h
      rw [h]
      simp [List.getD, hi2]
  refine hc.mono fun e W' ⟨he, hw⟩ => ?_
  subst he
  refine ⟨_, rfl, _, _, _, [], [] ++ ([] ++ p2), [], hW', ?_, ?_, ?_, hw.frame _, fun h => by cases h⟩
  · rw [e1]; exact trodAll_mk1 (shut_bool Tryz.underlying4 _)
  · rw [e1]; exact trodAll_mk3 (shut_int Tryz.underlying5 wa) (shut_int Tryz.underlying5 wb) (hargs W' hw)
  · rw [e1]; rfl

theorem law_row : Rows.GroupDoublesSaid :=
  OpenClaim.holds_of_wide 5 Tryz.f5 rfl rfl rfl rfl rfl rfl rfl ⟨rfl, rfl, rfl, rfl, rfl⟩ rfl rfl rfl rfl rfl (by kernel_rfl) Tryz.func5 (by kernel_rfl)
    (of_decide_eq_true (by kernel_rfl)) (by unfold Func.isWrapper; first | (rw [if_pos (by decide +kernel)]; kernel_rfl) | (rw [if_neg (by decide +kernel)]; exact ⟨rfl, rfl⟩))
    (fun os started H enc _ => law_lifted os started H enc)

theorem groupDoubles_holds : Rows.GroupDoublesCardSaid :=
  Claim7.holds_tied_plain_at .later [] [.data, .data, .data] true (true, "a9f2ae893330707db2dd76f1f84dfa98c3ea0dabdd45d7e5dbb70cbe7c474874") false
    law_row (fun _ h => by cases h) (by kernel_rfl) (fun _ h => by cases h) groupDoubles_row_tie rfl ⟨rfl, rfl⟩ (by kernel_rfl) rfl
    (fun f fn hf hfn => by
      obtain rfl : f = 5 := Option.some.inj ((show Tryz.prog.funcNamed "paddock/paddocklaw19.GroupDoubles" = some 5 by kernel_rfl).symm.trans hf) |>.symm
      obtain rfl : fn = Tryz.f5 := (Option.some.inj (Tryz.func5.symm.trans hfn)).symm
      exact ⟨by kernel_rfl, fun j t ht => by
        rw [Tryz.params5] at ht
        have hm : t ∈ [5, 23] := by
          have := Array.mem_of_getElem? ht
          simp at this
          simp
          omega
        have hall : ([5, 23].all fun u => !Tryz.prog.wantsStandIn u) = true := by kernel_rfl
        exact (show Tryz.prog.wantsStandIn t = false by simpa using List.all_eq_true.1 hall t hm)⟩)
    (by kernel_rfl)

#print axioms groupDoubles_holds
end Go.Proofs.YtmdnkhidhkbgcaaGreatDoor
