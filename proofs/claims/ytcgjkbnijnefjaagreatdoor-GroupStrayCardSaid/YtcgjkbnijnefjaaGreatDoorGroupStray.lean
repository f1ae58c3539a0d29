/- The given statement on 'paddocklaw19.GroupStray' is proved: for every input the law returns true, and its arguments read behind the call as they read before; its tied card. Conditions: those of the given row and card, no others. -/
import Derived.Test.YtcgjkbnijnefjaaGreatDoorRows
import Derived.Test.YtcgjkbnijnefjaaGreatDoorTie
import Derived.Test.YtcgjkbnijnefjaaGreatDoorCards
import Derived.Test.YtcgjkbnijnefjaaGreatDoorSrR
import Derived.ProofKit
import Derived.LaidMore
import Derived.OpenShut
import Derived.Carry
import Derived.Stop.Joined
import Derived.SevenTiedAt
namespace Go.Proofs.YtcgjkbnijnefjaaGreatDoor
open Go Go.ChangeShapes Go.WideShapes Go.ChangeAt Go.RowKit
set_option maxRecDepth 100000

theorem law_own : ownKnob Tryz.prog.godebug = none := by kernel_rfl

theorem law_door (os : Os) (args : Array Value) : laidMetH Tryz.prog Rows.groupStrayRow.laid ((World.doorLaid Tryz.prog 24 os).forCall (fun _ _ => 0) ⟨#[], args, []⟩).memory := by
  rw [MakeChecks.laidMetH_plain _ _ _ (by kernel_rfl)]
  exact laidMet_of_run' 8 (by kernel_rfl) (by kernel_rfl)

/-- An operation that is handed in. -/
theorem open_op {H : Type} {enc : TypeId × Value → H} {w : World} {base : Nat} {spare : Nat → Bool} {held : Bool} {r : Reach} {b0 : Nat} {v : Value} {d : DataW H} {p : List MemPlace} (hval : Value.okWide Tryz.prog w r b0 24 v) (h : DataW.Trod enc Tryz.prog w base spare held 24 v d p) :
    ∃ cl sq kd ob a s, v = .agg #[.int .u8 cl, .int .u32 sq, .int .u8 kd, .int .u8 ob, .int .u8 a, .string s] ∧ (Lit.int .u8 cl).wf = true ∧ (Lit.int .u32 sq).wf = true ∧ (Lit.int .u8 kd).wf = true ∧ (Lit.int .u8 ob).wf = true ∧ (Lit.int .u8 a).wf = true ∧ s.size ≤ maxLen := by
  have hc6 : Tryz.prog.cellsOf 24 = 6 := by kernel_rfl
  have hc5 : Tryz.prog.cellsOf 5 = 1 := by kernel_rfl
  have hc22 : Tryz.prog.cellsOf 22 = 1 := by kernel_rfl
  have hc9 : Tryz.prog.cellsOf 9 = 1 := by kernel_rfl
  obtain ⟨cs, rfl, hsz⟩ := okWide_struct Tryz.underlying24 hval
  rw [hc6] at hsz
  obtain ⟨fuel, hf⟩ := h
  obtain ⟨xs, n, _, hx, hl, hlen, hfs⟩ := DataW.trod_struct Tryz.underlying24 hf
  clear hx hl
  have f0 := hfs 0 ⟨ "Client", 5, 0, false, "", "", 0⟩ rfl
  have f1 := hfs 1 ⟨ "Seq", 22, 1, false, "", "", 4⟩ rfl
  have f2 := hfs 2 ⟨ "Kind", 5, 2, false, "", "", 8⟩ rfl
  have f3 := hfs 3 ⟨ "Obj", 5, 3, false, "", "", 9⟩ rfl
  have f4 := hfs 4 ⟨ "At", 5, 4, false, "", "", 10⟩ rfl
  have f5 := hfs 5 ⟨ "Data", 9, 5, false, "", "", 16⟩ rfl
  have hlen : xs.length = 6 := hlen
  clear hfs hf
  obtain ⟨c0, c1, c2, c3, c4, c5, rfl⟩ : ∃ c0 c1 c2 c3 c4 c5, cs = #[c0, c1, c2, c3, c4, c5] := by
    obtain ⟨l⟩ := cs
    match l, hsz with
    | [c0, c1, c2, c3, c4, c5], _ => exact ⟨c0, c1, c2, c3, c4, c5, rfl⟩
  obtain ⟨x0, x1, x2, x3, x4, x5, rfl⟩ : ∃ x0 x1 x2 x3 x4 x5, xs = [x0, x1, x2, x3, x4, x5] := by
    match xs, hlen with
    | [x0, x1, x2, x3, x4, x5], _ => exact ⟨x0, x1, x2, x3, x4, x5, rfl⟩
  dsimp only at f0 f1 f2 f3 f4 f5
  simp only [hc5, hc22, hc9, Value.cells, List.drop_zero, List.drop_succ_cons, List.take_succ_cons, List.take_zero, List.getElem?_cons_zero, List.getElem?_cons_succ] at f0 f1 f2 f3 f4 f5
  obtain ⟨cl, e0, _, w0⟩ := DataW.trod_int Tryz.underlying5 f0
  obtain ⟨sq, e1, _, w1⟩ := DataW.trod_int Tryz.underlying22 f1
  obtain ⟨kd, e2, _, w2⟩ := DataW.trod_int Tryz.underlying5 f2
  obtain ⟨ob, e3, _, w3⟩ := DataW.trod_int Tryz.underlying5 f3
  obtain ⟨a, e4, _, w4⟩ := DataW.trod_int Tryz.underlying5 f4
  obtain ⟨s, e5, _, w5⟩ := DataW.trod_string Tryz.underlying9 f5
  simp only [List.cons.injEq, and_true] at e0 e1 e2 e3 e4 e5
  subst e0 e1 e2 e3 e4 e5
  exact ⟨cl, sq, kd, ob, a, s, rfl, w0, w1, w2, w3, w4, w5⟩

theorem law_lifted (os : Os) (started : os.Started) (H : Type) (enc : TypeId × Value → H) :
    ReturnsInHanded {} Tryz.checked os 3 .any (fun w args => (Rows.groupStraySpec.pre enc Tryz.prog Tryz.f3 [] false w args ∧ laidMetH Tryz.prog Rows.groupStrayRow.laid w) ∧ sizedMet enc Tryz.prog Tryz.f3 (OpenSpec.ofChange Rows.groupStraySpec) false w args)
      (Rows.groupStraySpec.post enc Tryz.prog Tryz.f3 false true false false) := by
  refine returnsInHanded_of_change_and (C := Tryz.checked) (X := fun w _ => laidMetH Tryz.prog Rows.groupStrayRow.laid w) (fun _ _ _ hh h => h.of_heap hh) law_own started (by kernel_rfl) Tryz.func3
    (ChangeSpec.witness_shaped (enc := enc) (C := Tryz.checked) (os := os) (X := fun w _ => laidMetH Tryz.prog Rows.groupStrayRow.laid w) false (World.doorLaid Tryz.prog 24 os) #[.int .u8 0, .int .u8 0, .int .u32 0, .agg #[.int .u8 0, .int .u32 0, .int .u8 0, .int .u8 0, .int .u8 0, .string ⟨#[]⟩]] 8 rfl (World.shaped_of_RefB (by kernel_rfl) (by kernel_rfl)) (by kernel_rfl) (by kernel_rfl) (by kernel_rfl) (law_door os _)) ?_
  intro W base args ds gs before hval0 hW _ _ _ _
  have hval : ∀ (j : Nat) t v, Tryz.f3.params[j]? = some t → args[j]? = some v → Value.okWide Tryz.prog W .any base t v := hval0
  have hW' := hW
  obtain ⟨p, q, hA0, hV, rfl, hfz, hnd⟩ := hW
  have hA : DataW.TrodAll enc Tryz.prog W 0 (fun _ => true) true Tryz.f3.params.toList args.toList ds p := hA0
  rw [Tryz.params3] at hA hval
  obtain ⟨v0, v1, v2, v3, d0, d1, d2, d3, p0, p1, p2, p3, rfl, rfl, rfl, h0, h1, h2, h3⟩ := trodAll_four hA
  obtain ⟨rfl, rfl⟩ := trodVars_none hV
  obtain ⟨a, rfl, rfl, rfl, wa⟩ := open_int Tryz.underlying5 (hval 0 5 v0 rfl rfl) h0
  obtain ⟨b, rfl, rfl, rfl, wb⟩ := open_int Tryz.underlying5 (hval 1 5 v1 rfl rfl) h1
  obtain ⟨c, rfl, rfl, rfl, wc⟩ := open_int Tryz.underlying22 (hval 2 22 v2 rfl rfl) h2
  obtain ⟨cl, sq, kd, ob, at_, s, rfl, w0, w1, w2, w3, w4, w5⟩ := open_op (hval 3 24 v3 rfl rfl) h3
  clear hA0 hval0
  simp only [List.append_nil] at hW'
  have n8 : ∀ {n : Int}, (Lit.int .u8 n).wf = true → 0 ≤ n ∧ n < 256 := fun h => by
    simp only [Lit.wf, Bool.and_eq_true, decide_eq_true_eq] at h
    exact ⟨h.1, Int.lt_of_le_sub_one h.2⟩
  have n32 : ∀ {n : Int}, (Lit.int .u32 n).wf = true → 0 ≤ n ∧ n < 4294967296 := fun h => by
    simp only [Lit.wf, Bool.and_eq_true, decide_eq_true_eq] at h
    exact ⟨h.1, Int.lt_of_le_sub_one h.2⟩
  have hlt : ∀ x ∈ p3, x.block < W.heap.size := fun x hx => by simpa using hW'.lt x (by simp [hx])
  have hargs : ∀ (W' : World), Below W.heap.size W W' → DataW.Trod enc Tryz.prog W' 0 (fun b => decide (b < W.heap.size)) true 24 (.agg #[.int .u8 cl, .int .u32 sq, .int .u8 kd, .int .u8 ob, .int .u8 at_, .string s]) d3 p3 :=
    fun W' hn => Below.trod (by kernel_rfl) (by kernel_rfl) (of_decide_eq_true (by kernel_rfl)) h3 hn hlt
  have e1 : Rows.groupStraySpec.fn H ([.lit (.int .u8 a), .lit (.int .u8 b), .lit (.int .u32 c), d3] ++ []) = { results := [.lit (.bool true)], args := [.lit (.int .u8 a), .lit (.int .u8 b), .lit (.int .u32 c), d3] } := rfl
  have hc := Go.PE.law_calls (n8 wa) (n8 wb) (n32 wc) (n8 w0) (n32 w1) (n8 w2) (n8 w3) (n8 w4) w5 W
  refine hc.mono fun e W' ⟨he, hw⟩ => ?_
  subst he
  refine ⟨_, rfl, _, _, _, [], [] ++ ([] ++ ([] ++ p3)), [], hW', ?_, ?_, ?_, hw.frame _, fun h => by cases h⟩
  · rw [e1]; exact trodAll_mk1 (shut_bool Tryz.underlying4 _)
  · rw [e1]; exact trodAll_mk4 (shut_int Tryz.underlying5 wa) (shut_int Tryz.underlying5 wb) (shut_int Tryz.underlying22 wc) (hargs W' hw)
  · rw [e1]; rfl

theorem law_row : Rows.GroupStraySaid :=
  OpenClaim.holds_of_wide 3 Tryz.f3 rfl rfl rfl rfl rfl rfl rfl ⟨rfl, rfl, rfl, rfl, rfl⟩ rfl rfl rfl rfl rfl (by kernel_rfl) Tryz.func3 (by kernel_rfl)
    (of_decide_eq_true (by kernel_rfl)) (by unfold Func.isWrapper; first | (rw [if_pos (by decide +kernel)]; kernel_rfl) | (rw [if_neg (by decide +kernel)]; exact ⟨rfl, rfl⟩))
    (fun os started H enc _ => law_lifted os started H enc)

theorem groupStray_holds : Rows.GroupStrayCardSaid :=
  Claim7.holds_tied_plain_at .later [] [.data, .data, .data] true (true, "08abe13f416492d1538e5d762a5e6c309ef72c195e0e68e8496b4d7b7e279fbf") false
    law_row (fun _ h => by cases h) (by kernel_rfl) (fun _ h => by cases h) groupStray_row_tie rfl ⟨rfl, rfl⟩ (by kernel_rfl) rfl
    (fun f fn hf hfn => by
      obtain rfl : f = 3 := Option.some.inj ((show Tryz.prog.funcNamed "paddock/paddocklaw19.GroupStray" = some 3 by kernel_rfl).symm.trans hf) |>.symm
      obtain rfl : fn = Tryz.f3 := (Option.some.inj (Tryz.func3.symm.trans hfn)).symm
      exact ⟨by kernel_rfl, fun j t ht => by
        rw [Tryz.params3] at ht
        have hm : t ∈ [5, 22, 24] := by
          have := Array.mem_of_getElem? ht
          simp at this
          simp
          omega
        have hall : ([5, 22, 24].all fun u => !Tryz.prog.wantsStandIn u) = true := by kernel_rfl
        exact (show Tryz.prog.wantsStandIn t = false by simpa using List.all_eq_true.1 hall t hm)⟩)
    (by kernel_rfl)

#print axioms groupStray_holds
end Go.Proofs.YtcgjkbnijnefjaaGreatDoor
