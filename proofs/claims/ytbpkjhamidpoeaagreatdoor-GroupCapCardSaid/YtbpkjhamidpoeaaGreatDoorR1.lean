/- GroupCap's call, at every input: it returns true, and nothing that was there turns. -/
import Derived.Test.YtbpkjhamidpoeaaGreatDoorC1
import Derived.Test.YtbpkjhamidpoeaaGreatDoorC2
import Derived.Test.YtbpkjhamidpoeaaGreatDoorC3
import Derived.Below
namespace Go.PE
open Go.Proofs Go.RowKit

theorem law_of_run {g n : Int} {p : V × TH} (hp : ctx2 3 [.int .u8 g, .int .u8 n] ⟨.nil, 0⟩ = some p) (h : V.beq p.1 (.bool true) = true) : ∃ L, law2 3 [.int .u8 g, .int .u8 n] [] = some (.bool true, L) := by
  have hb := V.beq_eq _ _ h
  obtain ⟨L, h3, _⟩ := ctxH_sim (fs := litF) (T := T2) (G := appSeqG 143 102) (rounds := 3000) 40 3 [.int .u8 g, .int .u8 n] ⟨.nil, 0⟩ p.2 [] p.1 HIs.empty hp
  exact ⟨L, by unfold law2; rw [h3, hb]⟩

theorem run_0_0 : ∃ L, law2 3 [.int .u8 0, .int .u8 0] [] = some (.bool true, L) := by
  have h := cap_0_0
  cases hx : ctx2 3 [.int .u8 0, .int .u8 0] ⟨.nil, 0⟩ with
  | none => rw [hx] at h; exact absurd h (by simp)
  | some p => rw [hx] at h; exact law_of_run hx h

theorem run_0_1 : ∃ L, law2 3 [.int .u8 0, .int .u8 1] [] = some (.bool true, L) := by
  have h := cap_0_1
  cases hx : ctx2 3 [.int .u8 0, .int .u8 1] ⟨.nil, 0⟩ with
  | none => rw [hx] at h; exact absurd h (by simp)
  | some p => rw [hx] at h; exact law_of_run hx h

theorem run_0_2 : ∃ L, law2 3 [.int .u8 0, .int .u8 2] [] = some (.bool true, L) := by
  have h := cap_0_2
  cases hx : ctx2 3 [.int .u8 0, .int .u8 2] ⟨.nil, 0⟩ with
  | none => rw [hx] at h; exact absurd h (by simp)
  | some p => rw [hx] at h; exact law_of_run hx h

theorem run_0_3 : ∃ L, law2 3 [.int .u8 0, .int .u8 3] [] = some (.bool true, L) := by
  have h := cap_0_3
  cases hx : ctx2 3 [.int .u8 0, .int .u8 3] ⟨.nil, 0⟩ with
  | none => rw [hx] at h; exact absurd h (by simp)
  | some p => rw [hx] at h; exact law_of_run hx h

theorem run_0_4 : ∃ L, law2 3 [.int .u8 0, .int .u8 4] [] = some (.bool true, L) := by
  have h := cap_0_4
  cases hx : ctx2 3 [.int .u8 0, .int .u8 4] ⟨.nil, 0⟩ with
  | none => rw [hx] at h; exact absurd h (by simp)
  | some p => rw [hx] at h; exact law_of_run hx h

theorem run_0_5 : ∃ L, law2 3 [.int .u8 0, .int .u8 5] [] = some (.bool true, L) := by
  have h := cap_0_5
  cases hx : ctx2 3 [.int .u8 0, .int .u8 5] ⟨.nil, 0⟩ with
  | none => rw [hx] at h; exact absurd h (by simp)
  | some p => rw [hx] at h; exact law_of_run hx h

theorem run_1_0 : ∃ L, law2 3 [.int .u8 1, .int .u8 0] [] = some (.bool true, L) := by
  have h := cap_1_0
  cases hx : ctx2 3 [.int .u8 1, .int .u8 0] ⟨.nil, 0⟩ with
  | none => rw [hx] at h; exact absurd h (by simp)
  | some p => rw [hx] at h; exact law_of_run hx h

theorem run_1_1 : ∃ L, law2 3 [.int .u8 1, .int .u8 1] [] = some (.bool true, L) := by
  have h := cap_1_1
  cases hx : ctx2 3 [.int .u8 1, .int .u8 1] ⟨.nil, 0⟩ with
  | none => rw [hx] at h; exact absurd h (by simp)
  | some p => rw [hx] at h; exact law_of_run hx h

theorem run_1_2 : ∃ L, law2 3 [.int .u8 1, .int .u8 2] [] = some (.bool true, L) := by
  have h := cap_1_2
  cases hx : ctx2 3 [.int .u8 1, .int .u8 2] ⟨.nil, 0⟩ with
  | none => rw [hx] at h; exact absurd h (by simp)
  | some p => rw [hx] at h; exact law_of_run hx h

theorem run_1_3 : ∃ L, law2 3 [.int .u8 1, .int .u8 3] [] = some (.bool true, L) := by
  have h := cap_1_3
  cases hx : ctx2 3 [.int .u8 1, .int .u8 3] ⟨.nil, 0⟩ with
  | none => rw [hx] at h; exact absurd h (by simp)
  | some p => rw [hx] at h; exact law_of_run hx h

theorem run_1_4 : ∃ L, law2 3 [.int .u8 1, .int .u8 4] [] = some (.bool true, L) := by
  have h := cap_1_4
  cases hx : ctx2 3 [.int .u8 1, .int .u8 4] ⟨.nil, 0⟩ with
  | none => rw [hx] at h; exact absurd h (by simp)
  | some p => rw [hx] at h; exact law_of_run hx h

theorem run_1_5 : ∃ L, law2 3 [.int .u8 1, .int .u8 5] [] = some (.bool true, L) := by
  have h := cap_1_5
  cases hx : ctx2 3 [.int .u8 1, .int .u8 5] ⟨.nil, 0⟩ with
  | none => rw [hx] at h; exact absurd h (by simp)
  | some p => rw [hx] at h; exact law_of_run hx h

theorem run_2_0 : ∃ L, law2 3 [.int .u8 2, .int .u8 0] [] = some (.bool true, L) := by
  have h := cap_2_0
  cases hx : ctx2 3 [.int .u8 2, .int .u8 0] ⟨.nil, 0⟩ with
  | none => rw [hx] at h; exact absurd h (by simp)
  | some p => rw [hx] at h; exact law_of_run hx h

theorem run_2_1 : ∃ L, law2 3 [.int .u8 2, .int .u8 1] [] = some (.bool true, L) := by
  have h := cap_2_1
  cases hx : ctx2 3 [.int .u8 2, .int .u8 1] ⟨.nil, 0⟩ with
  | none => rw [hx] at h; exact absurd h (by simp)
  | some p => rw [hx] at h; exact law_of_run hx h

theorem run_2_2 : ∃ L, law2 3 [.int .u8 2, .int .u8 2] [] = some (.bool true, L) := by
  have h := cap_2_2
  cases hx : ctx2 3 [.int .u8 2, .int .u8 2] ⟨.nil, 0⟩ with
  | none => rw [hx] at h; exact absurd h (by simp)
  | some p => rw [hx] at h; exact law_of_run hx h

theorem run_2_3 : ∃ L, law2 3 [.int .u8 2, .int .u8 3] [] = some (.bool true, L) := by
  have h := cap_2_3
  cases hx : ctx2 3 [.int .u8 2, .int .u8 3] ⟨.nil, 0⟩ with
  | none => rw [hx] at h; exact absurd h (by simp)
  | some p => rw [hx] at h; exact law_of_run hx h

theorem run_2_4 : ∃ L, law2 3 [.int .u8 2, .int .u8 4] [] = some (.bool true, L) := by
  have h := cap_2_4
  cases hx : ctx2 3 [.int .u8 2, .int .u8 4] ⟨.nil, 0⟩ with
  | none => rw [hx] at h; exact absurd h (by simp)
  | some p => rw [hx] at h; exact law_of_run hx h

theorem run_2_5 : ∃ L, law2 3 [.int .u8 2, .int .u8 5] [] = some (.bool true, L) := by
  have h := cap_2_5
  cases hx : ctx2 3 [.int .u8 2, .int .u8 5] ⟨.nil, 0⟩ with
  | none => rw [hx] at h; exact absurd h (by simp)
  | some p => rw [hx] at h; exact law_of_run hx h

theorem run_3_0 : ∃ L, law2 3 [.int .u8 3, .int .u8 0] [] = some (.bool true, L) := by
  have h := cap_3_0
  cases hx : ctx2 3 [.int .u8 3, .int .u8 0] ⟨.nil, 0⟩ with
  | none => rw [hx] at h; exact absurd h (by simp)
  | some p => rw [hx] at h; exact law_of_run hx h

theorem run_3_1 : ∃ L, law2 3 [.int .u8 3, .int .u8 1] [] = some (.bool true, L) := by
  have h := cap_3_1
  cases hx : ctx2 3 [.int .u8 3, .int .u8 1] ⟨.nil, 0⟩ with
  | none => rw [hx] at h; exact absurd h (by simp)
  | some p => rw [hx] at h; exact law_of_run hx h

theorem run_3_2 : ∃ L, law2 3 [.int .u8 3, .int .u8 2] [] = some (.bool true, L) := by
  have h := cap_3_2
  cases hx : ctx2 3 [.int .u8 3, .int .u8 2] ⟨.nil, 0⟩ with
  | none => rw [hx] at h; exact absurd h (by simp)
  | some p => rw [hx] at h; exact law_of_run hx h

theorem run_3_3 : ∃ L, law2 3 [.int .u8 3, .int .u8 3] [] = some (.bool true, L) := by
  have h := cap_3_3
  cases hx : ctx2 3 [.int .u8 3, .int .u8 3] ⟨.nil, 0⟩ with
  | none => rw [hx] at h; exact absurd h (by simp)
  | some p => rw [hx] at h; exact law_of_run hx h

theorem run_3_4 : ∃ L, law2 3 [.int .u8 3, .int .u8 4] [] = some (.bool true, L) := by
  have h := cap_3_4
  cases hx : ctx2 3 [.int .u8 3, .int .u8 4] ⟨.nil, 0⟩ with
  | none => rw [hx] at h; exact absurd h (by simp)
  | some p => rw [hx] at h; exact law_of_run hx h

theorem run_3_5 : ∃ L, law2 3 [.int .u8 3, .int .u8 5] [] = some (.bool true, L) := by
  have h := cap_3_5
  cases hx : ctx2 3 [.int .u8 3, .int .u8 5] ⟨.nil, 0⟩ with
  | none => rw [hx] at h; exact absurd h (by simp)
  | some p => rw [hx] at h; exact law_of_run hx h

theorem law_true (a b : Int) (ha : 0 ≤ a) (hb : 0 ≤ b) : ∃ L, law2 3 [.int .u8 a, .int .u8 b] [] = some (.bool true, L) := by
  have e1 : a.tmod 4 = a % 4 := Int.tmod_eq_emod_of_nonneg ha
  have e2 : b.tmod 6 = b % 6 := Int.tmod_eq_emod_of_nonneg hb
  have step : ∀ g n : Int, a % 4 = g → b % 6 = n → g.tmod 4 = g → n.tmod 6 = n → (∃ L, law2 3 [.int .u8 g, .int .u8 n] [] = some (.bool true, L)) → ∃ L, law2 3 [.int .u8 a, .int .u8 b] [] = some (.bool true, L) := by
    rintro g n h1 h2 h3 h4 ⟨L, hL⟩
    exact ⟨L, by rw [law_mod a g b n [] (by rw [e1, h1, h3]) (by rw [e2, h2, h4]), hL]⟩
  have h4 : a % 4 = 0 ∨ a % 4 = 1 ∨ a % 4 = 2 ∨ a % 4 = 3 := by omega
  have h6 : b % 6 = 0 ∨ b % 6 = 1 ∨ b % 6 = 2 ∨ b % 6 = 3 ∨ b % 6 = 4 ∨ b % 6 = 5 := by omega
  rcases h4 with h | h | h | h <;> rcases h6 with k | k | k | k | k | k
  · exact step 0 0 h k rfl rfl run_0_0
  · exact step 0 1 h k rfl rfl run_0_1
  · exact step 0 2 h k rfl rfl run_0_2
  · exact step 0 3 h k rfl rfl run_0_3
  · exact step 0 4 h k rfl rfl run_0_4
  · exact step 0 5 h k rfl rfl run_0_5
  · exact step 1 0 h k rfl rfl run_1_0
  · exact step 1 1 h k rfl rfl run_1_1
  · exact step 1 2 h k rfl rfl run_1_2
  · exact step 1 3 h k rfl rfl run_1_3
  · exact step 1 4 h k rfl rfl run_1_4
  · exact step 1 5 h k rfl rfl run_1_5
  · exact step 2 0 h k rfl rfl run_2_0
  · exact step 2 1 h k rfl rfl run_2_1
  · exact step 2 2 h k rfl rfl run_2_2
  · exact step 2 3 h k rfl rfl run_2_3
  · exact step 2 4 h k rfl rfl run_2_4
  · exact step 2 5 h k rfl rfl run_2_5
  · exact step 3 0 h k rfl rfl run_3_0
  · exact step 3 1 h k rfl rfl run_3_1
  · exact step 3 2 h k rfl rfl run_3_2
  · exact step 3 3 h k rfl rfl run_3_3
  · exact step 3 4 h k rfl rfl run_3_4
  · exact step 3 5 h k rfl rfl run_3_5

/-- From plain arguments in an empty abstract heap: the call returns, and all that was there stands. -/
theorem calls_of_law {P : Program} {f : FuncId} {F : List V → Heap → Option (V × Heap)} (hF : CallOK P f F) {args : List V} {args' : Array Value} (hargs : VRL Ren.empty args args'.toList) {L : Heap} (h : F args [] = some (.bool true, L)) (W : World) :
    Calls P f args' W fun e W' => e = .returned (.bool true) ∧ Below W.heap.size W W' := by
  refine (hF Ren.empty [] L W args args' (.bool true) h hargs (Rel.empty _ _)).2.mono ?_
  rintro e W' ⟨v', R', rfl, r2, _, r4, _⟩
  cases r4
  exact ⟨rfl, r2.os, r2.tape, r2.output, r2.size, fun r hr => r2.keep r hr (fun _ _ _ h => by simp [Ren.empty] at h) (fun _ h => by simp [Ren.empty] at h)⟩

theorem cap_calls (a b : Int) (ha : 0 ≤ a) (hb : 0 ≤ b) (W : World) : Calls Tryz.prog 3 #[.int .u8 a, .int .u8 b] W fun e W' => e = .returned (.bool true) ∧ Below W.heap.size W W' := by
  obtain ⟨L, h⟩ := law_true a b ha hb
  exact calls_of_law (law2_ok 3) (.cons (.int _ _) (.cons (.int _ _) .nil)) h W

end Go.PE
