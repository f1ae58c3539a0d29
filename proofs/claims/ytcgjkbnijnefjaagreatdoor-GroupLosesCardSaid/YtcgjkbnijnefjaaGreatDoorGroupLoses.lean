/- The given statement on 'paddocklaw19.GroupLoses' is proved: for every input the law returns true, and its arguments read behind the call as they read before; its tied card. Conditions: those of the given row and card, no others. -/
import Derived.Test.YtcgjkbnijnefjaaGreatDoorRows
import Derived.Test.YtcgjkbnijnefjaaGreatDoorTie
import Derived.Test.YtcgjkbnijnefjaaGreatDoorCards
import Derived.Test.YtcgjkbnijnefjaaGreatDoorLsR
import Derived.Test.YtcgjkbnijnefjaaGreatDoorLsQ
import Derived.ProofKit
import Derived.ChangeMaps5
import Derived.Deep.Grids
import Derived.LaidMore
import Derived.OpenShut
import Derived.Carry
import Derived.Stop.Joined
import Derived.SevenTiedAt
namespace Go.Proofs.YtcgjkbnijnefjaaGreatDoor
open Go Go.ChangeShapes Go.WideShapes Go.ChangeAt Go.RowKit
open Go.ChangeMaps (open_string shut_string)
open Go.Deep (open_bools)
set_option maxRecDepth 100000

theorem law_own : ownKnob Tryz.prog.godebug = none := by kernel_rfl

theorem law_door (os : Os) (args : Array Value) : laidMetH Tryz.prog Rows.groupLosesRow.laid ((World.doorLaid Tryz.prog 24 os).forCall (fun _ _ => 0) ⟨#[], args, []⟩).memory := by
  rw [MakeChecks.laidMetH_plain _ _ _ (by kernel_rfl)]
  exact laidMet_of_run' 8 (by kernel_rfl) (by kernel_rfl)

theorem law_lifted (os : Os) (started : os.Started) (H : Type) (enc : TypeId × Value → H) :
    ReturnsInHanded {} Tryz.checked os 4 .any (fun w args => (Rows.groupLosesSpec.pre enc Tryz.prog Tryz.f4 [] false w args ∧ laidMetH Tryz.prog Rows.groupLosesRow.laid w) ∧ sizedMet enc Tryz.prog Tryz.f4 (OpenSpec.ofChange Rows.groupLosesSpec) false w args)
      (Rows.groupLosesSpec.post enc Tryz.prog Tryz.f4 false true false false) := by
  refine returnsInHanded_of_change_and (C := Tryz.checked) (X := fun w _ => laidMetH Tryz.prog Rows.groupLosesRow.laid w) (fun _ _ _ hh h => h.of_heap hh) law_own started (by kernel_rfl) Tryz.func4
    (ChangeSpec.witness_shaped (enc := enc) (C := Tryz.checked) (os := os) (X := fun w _ => laidMetH Tryz.prog Rows.groupLosesRow.laid w) false (World.doorLaid Tryz.prog 24 os) #[.int .u8 0, .slice none 0 0, .string ⟨#[]⟩] 8 rfl (World.shaped_of_RefB (by kernel_rfl) (by kernel_rfl)) (by kernel_rfl) (by kernel_rfl) (by kernel_rfl) (law_door os _)) ?_
  intro W base args ds gs before hval0 hW _ _ _ _
  have hval : ∀ (j : Nat) t v, Tryz.f4.params[j]? = some t → args[j]? = some v → Value.okWide Tryz.prog W .any base t v := hval0
  have hW' := hW
  obtain ⟨p, q, hA0, hV, rfl, hfz, hnd⟩ := hW
  have hA : DataW.TrodAll enc Tryz.prog W 0 (fun _ => true) true Tryz.f4.params.toList args.toList ds p := hA0
  rw [Tryz.params4] at hA hval
  obtain ⟨v0, v1, v2, d0, d1, d2, p0, p1, p2, rfl, rfl, rfl, h0, h1, h2⟩ := trodAll_three hA
  obtain ⟨rfl, rfl⟩ := trodVars_none hV
  obtain ⟨a, rfl, rfl, rfl, wa⟩ := open_int Tryz.underlying5 (hval 0 5 v0 rfl rfl) h0
  obtain ⟨s, rfl, rfl, rfl, ws⟩ := open_string Tryz.underlying9 (hval 2 9 v2 rfl rfl) h2
  have hok := hval 1 66 v1 rfl rfl
  obtain ⟨a0, len, cap, rfl⟩ := okWide_slice Tryz.underlying66 hok
  have h1k := h1
  obtain ⟨fuel, hf⟩ := h1
  clear hA0 hval0
  simp only [List.append_nil] at hW'
  have na : 0 ≤ a ∧ a < 256 := by
    have h := wa
    simp only [Lit.wf, Bool.and_eq_true, decide_eq_true_eq] at h
    exact ⟨h.1, Int.lt_of_le_sub_one h.2⟩
  have hlt : ∀ x ∈ p1, x.block < W.heap.size := fun x hx => by simpa using hW'.lt x (by simp [hx])
  have hargs : ∀ (W' : World), Below W.heap.size W W' → DataW.Trod enc Tryz.prog W' 0 (fun b => decide (b < W.heap.size)) true 66 (.slice a0 len cap) d1 p1 :=
    fun W' hn => Below.trod (by kernel_rfl) (by kernel_rfl) (of_decide_eq_true (by kernel_rfl)) h1k hn hlt
  have e1 : Rows.groupLosesSpec.fn H ([.lit (.int .u8 a), d1, .lit (.string s.data.toList)] ++ []) = { results := [.lit (.bool true)], args := [.lit (.int .u8 a), d1, .lit (.string s.data.toList)] } := rfl
  have hc : Calls Tryz.prog 4 #[.int .u8 a, .slice a0 len cap, .string s] W fun e W' => e = .returned (.bool true) ∧ Below W.heap.size W W' := by
    rcases open_bools Tryz.underlying66 Tryz.underlying4 (by kernel_rfl) hf with ⟨hcs, _⟩ | ⟨ad, len', cap', B, hcs, _, hl, hm, hx, hcell⟩
    · simp [Value.cells] at hcs
      obtain ⟨rfl, rfl, rfl⟩ := hcs
      exact Go.PE.law_calls ws Go.PE.Truths.nil na .nils
    · simp [Value.cells] at hcs
      obtain ⟨rfl, rfl, rfl⟩ := hcs
      obtain ⟨bl, off, spot⟩ := ad
      have hs : spot = none := by
        simp only [Value.okWide, Tryz.underlying66, Cell.okWide, Cell.ok] at hok
        exact hok.2.2.2.1
      subst hs
      refine Go.PE.law_calls ws (Go.PE.Truths.row B len) na (Go.PE.VR.truths hl fun i hi => ?_)
      have h := hcell i (Nat.lt_of_lt_of_le hi hl)
      have e2 : (⟨bl, off, none⟩ : Addr).add i = ⟨bl, off + i, none⟩ := by
        unfold Addr.add
        split
        · rename_i h0; subst h0; rfl
        · rfl
      rw [e2] at h
      exact h
  refine hc.mono fun e W' ⟨he, hw⟩ => ?_
  subst he
  refine ⟨_, rfl, _, _, _, [], [] ++ (p1 ++ []), [], hW', ?_, ?_, ?_, hw.frame _, fun h => by cases h⟩
  · rw [e1]; exact trodAll_mk1 (shut_bool Tryz.underlying4 _)
  · rw [e1]; exact trodAll_mk3 (shut_int Tryz.underlying5 wa) (hargs W' hw) (shut_string Tryz.underlying9 ws)
  · rw [e1]; rfl

theorem law_row : Rows.GroupLosesSaid :=
  OpenClaim.holds_of_wide 4 Tryz.f4 rfl rfl rfl rfl rfl rfl rfl ⟨rfl, rfl, rfl, rfl, rfl⟩ rfl rfl rfl rfl rfl (by kernel_rfl) Tryz.func4 (by kernel_rfl)
    (of_decide_eq_true (by kernel_rfl)) (by unfold Func.isWrapper; first | (rw [if_pos (by decide +kernel)]; kernel_rfl) | (rw [if_neg (by decide +kernel)]; exact ⟨rfl, rfl⟩))
    (fun os started H enc _ => law_lifted os started H enc)

theorem groupLoses_holds : Rows.GroupLosesCardSaid :=
  Claim7.holds_tied_plain_at .later [] [.data, .data, .data] true (true, "08abe13f416492d1538e5d762a5e6c309ef72c195e0e68e8496b4d7b7e279fbf") false
    law_row (fun _ h => by cases h) (by kernel_rfl) (fun _ h => by cases h) groupLoses_row_tie rfl ⟨rfl, rfl⟩ (by kernel_rfl) rfl
    (fun f fn hf hfn => by
      obtain rfl : f = 4 := Option.some.inj ((show Tryz.prog.funcNamed "paddock/paddocklaw19.GroupLoses" = some 4 by kernel_rfl).symm.trans hf) |>.symm
      obtain rfl : fn = Tryz.f4 := (Option.some.inj (Tryz.func4.symm.trans hfn)).symm
      exact ⟨by kernel_rfl, fun j t ht => by
        rw [Tryz.params4] at ht
        have hm : t ∈ [5, 66, 9] := by
          have := Array.mem_of_getElem? ht
          simp at this
          simp
          omega
        have hall : ([5, 66, 9].all fun u => !Tryz.prog.wantsStandIn u) = true := by kernel_rfl
        exact (show Tryz.prog.wantsStandIn t = false by simpa using List.all_eq_true.1 hall t hm)⟩)
    (by kernel_rfl)

#print axioms groupLoses_holds
end Go.Proofs.YtcgjkbnijnefjaaGreatDoor
