/- GroupFew's call, at every input: it returns true, and nothing that was there turns. -/
import Derived.Test.YtcmcijlbmkllpaaGreatDoorFwC0a
import Derived.Test.YtcmcijlbmkllpaaGreatDoorFwC1a
import Derived.Test.YtcmcijlbmkllpaaGreatDoorFwC2a
import Derived.Test.YtcmcijlbmkllpaaGreatDoorFwC3a
import Derived.Test.YtcmcijlbmkllpaaGreatDoorFwM
import Derived.Below
namespace Go.PE
open Go.Proofs Go.RowKit

theorem of_class {l : List (List V)} {X : CtxK} (h : l.all (trueB X 5) = true) {args : List V} (hm : args ∈ l) : trueB X 5 args = true := List.all_eq_true.1 h args hm

theorem r_g0_0 : ∃ L, ctxE litF (shortE T2 G_g0) 3000 40 5 [.int .u8 0, .int .u8 0] [] = some (.bool true, L) := law_of_trueB (of_class c_g0_0 (by simp [cl_g0_0]))
theorem r_g0_1 : ∃ L, ctxE litF (shortE T2 G_g0) 3000 40 5 [.int .u8 0, .int .u8 1] [] = some (.bool true, L) := law_of_trueB (of_class c_g0_0 (by simp [cl_g0_0]))
theorem r_g0_2 : ∃ L, ctxE litF (shortE T2 G_g0) 3000 40 5 [.int .u8 0, .int .u8 2] [] = some (.bool true, L) := law_of_trueB (of_class c_g0_1 (by simp [cl_g0_1]))
theorem r_g0_3 : ∃ L, ctxE litF (shortE T2 G_g0) 3000 40 5 [.int .u8 0, .int .u8 3] [] = some (.bool true, L) := law_of_trueB (of_class c_g0_1 (by simp [cl_g0_1]))
theorem r_g0_4 : ∃ L, ctxE litF (shortE T2 G_g0) 3000 40 5 [.int .u8 0, .int .u8 4] [] = some (.bool true, L) := law_of_trueB (of_class c_g0_2 (by simp [cl_g0_2]))
theorem r_g0_5 : ∃ L, ctxE litF (shortE T2 G_g0) 3000 40 5 [.int .u8 0, .int .u8 5] [] = some (.bool true, L) := law_of_trueB (of_class c_g0_2 (by simp [cl_g0_2]))
theorem r_g0_6 : ∃ L, ctxE litF (shortE T2 G_g0) 3000 40 5 [.int .u8 0, .int .u8 6] [] = some (.bool true, L) := law_of_trueB (of_class c_g0_3 (by simp [cl_g0_3]))
theorem r_g0_7 : ∃ L, ctxE litF (shortE T2 G_g0) 3000 40 5 [.int .u8 0, .int .u8 7] [] = some (.bool true, L) := law_of_trueB (of_class c_g0_3 (by simp [cl_g0_3]))
theorem r_g1_0 : ∃ L, ctxE litF (shortE T2 G_g1) 3000 40 5 [.int .u8 1, .int .u8 0] [] = some (.bool true, L) := law_of_trueB (of_class c_g1_0 (by simp [cl_g1_0]))
theorem r_g1_1 : ∃ L, ctxE litF (shortE T2 G_g1) 3000 40 5 [.int .u8 1, .int .u8 1] [] = some (.bool true, L) := law_of_trueB (of_class c_g1_0 (by simp [cl_g1_0]))
theorem r_g1_2 : ∃ L, ctxE litF (shortE T2 G_g1) 3000 40 5 [.int .u8 1, .int .u8 2] [] = some (.bool true, L) := law_of_trueB (of_class c_g1_1 (by simp [cl_g1_1]))
theorem r_g1_3 : ∃ L, ctxE litF (shortE T2 G_g1) 3000 40 5 [.int .u8 1, .int .u8 3] [] = some (.bool true, L) := law_of_trueB (of_class c_g1_1 (by simp [cl_g1_1]))
theorem r_g1_4 : ∃ L, ctxE litF (shortE T2 G_g1) 3000 40 5 [.int .u8 1, .int .u8 4] [] = some (.bool true, L) := law_of_trueB (of_class c_g1_2 (by simp [cl_g1_2]))
theorem r_g1_5 : ∃ L, ctxE litF (shortE T2 G_g1) 3000 40 5 [.int .u8 1, .int .u8 5] [] = some (.bool true, L) := law_of_trueB (of_class c_g1_2 (by simp [cl_g1_2]))
theorem r_g1_6 : ∃ L, ctxE litF (shortE T2 G_g1) 3000 40 5 [.int .u8 1, .int .u8 6] [] = some (.bool true, L) := law_of_trueB (of_class c_g1_3 (by simp [cl_g1_3]))
theorem r_g1_7 : ∃ L, ctxE litF (shortE T2 G_g1) 3000 40 5 [.int .u8 1, .int .u8 7] [] = some (.bool true, L) := law_of_trueB (of_class c_g1_3 (by simp [cl_g1_3]))
theorem r_g2_0 : ∃ L, ctxE litF (shortE T2 G_g2) 3000 40 5 [.int .u8 2, .int .u8 0] [] = some (.bool true, L) := law_of_trueB (of_class c_g2_0 (by simp [cl_g2_0]))
theorem r_g2_1 : ∃ L, ctxE litF (shortE T2 G_g2) 3000 40 5 [.int .u8 2, .int .u8 1] [] = some (.bool true, L) := law_of_trueB (of_class c_g2_0 (by simp [cl_g2_0]))
theorem r_g2_2 : ∃ L, ctxE litF (shortE T2 G_g2) 3000 40 5 [.int .u8 2, .int .u8 2] [] = some (.bool true, L) := law_of_trueB (of_class c_g2_1 (by simp [cl_g2_1]))
theorem r_g2_3 : ∃ L, ctxE litF (shortE T2 G_g2) 3000 40 5 [.int .u8 2, .int .u8 3] [] = some (.bool true, L) := law_of_trueB (of_class c_g2_1 (by simp [cl_g2_1]))
theorem r_g2_4 : ∃ L, ctxE litF (shortE T2 G_g2) 3000 40 5 [.int .u8 2, .int .u8 4] [] = some (.bool true, L) := law_of_trueB (of_class c_g2_2 (by simp [cl_g2_2]))
theorem r_g2_5 : ∃ L, ctxE litF (shortE T2 G_g2) 3000 40 5 [.int .u8 2, .int .u8 5] [] = some (.bool true, L) := law_of_trueB (of_class c_g2_2 (by simp [cl_g2_2]))
theorem r_g2_6 : ∃ L, ctxE litF (shortE T2 G_g2) 3000 40 5 [.int .u8 2, .int .u8 6] [] = some (.bool true, L) := law_of_trueB (of_class c_g2_3 (by simp [cl_g2_3]))
theorem r_g2_7 : ∃ L, ctxE litF (shortE T2 G_g2) 3000 40 5 [.int .u8 2, .int .u8 7] [] = some (.bool true, L) := law_of_trueB (of_class c_g2_3 (by simp [cl_g2_3]))
theorem r_g3_0 : ∃ L, ctxE litF (shortE T2 G_g3) 3000 40 5 [.int .u8 3, .int .u8 0] [] = some (.bool true, L) := law_of_trueB (of_class c_g3_0 (by simp [cl_g3_0]))
theorem r_g3_1 : ∃ L, ctxE litF (shortE T2 G_g3) 3000 40 5 [.int .u8 3, .int .u8 1] [] = some (.bool true, L) := law_of_trueB (of_class c_g3_0 (by simp [cl_g3_0]))
theorem r_g3_2 : ∃ L, ctxE litF (shortE T2 G_g3) 3000 40 5 [.int .u8 3, .int .u8 2] [] = some (.bool true, L) := law_of_trueB (of_class c_g3_1 (by simp [cl_g3_1]))
theorem r_g3_3 : ∃ L, ctxE litF (shortE T2 G_g3) 3000 40 5 [.int .u8 3, .int .u8 3] [] = some (.bool true, L) := law_of_trueB (of_class c_g3_1 (by simp [cl_g3_1]))
theorem r_g3_4 : ∃ L, ctxE litF (shortE T2 G_g3) 3000 40 5 [.int .u8 3, .int .u8 4] [] = some (.bool true, L) := law_of_trueB (of_class c_g3_2 (by simp [cl_g3_2]))
theorem r_g3_5 : ∃ L, ctxE litF (shortE T2 G_g3) 3000 40 5 [.int .u8 3, .int .u8 5] [] = some (.bool true, L) := law_of_trueB (of_class c_g3_2 (by simp [cl_g3_2]))
theorem r_g3_6 : ∃ L, ctxE litF (shortE T2 G_g3) 3000 40 5 [.int .u8 3, .int .u8 6] [] = some (.bool true, L) := law_of_trueB (of_class c_g3_3 (by simp [cl_g3_3]))
theorem r_g3_7 : ∃ L, ctxE litF (shortE T2 G_g3) 3000 40 5 [.int .u8 3, .int .u8 7] [] = some (.bool true, L) := law_of_trueB (of_class c_g3_3 (by simp [cl_g3_3]))

theorem law_calls (a : Int) (b : Int) (ha : 0 ≤ a ∧ a < 256) (hb : 0 ≤ b ∧ b < 256) (W : World) : Calls Tryz.prog 5 #[.int .u8 a, .int .u8 b] W fun e W' => e = .returned (.bool true) ∧ Below W.heap.size W W' := by
  have ea : a.tmod 4 = a % 4 := Int.tmod_eq_emod_of_nonneg ha.1
  have eb : b.tmod 8 = b % 8 := Int.tmod_eq_emod_of_nonneg hb.1
  have step0 : ∀ (a0 : Int) (b0 : Int), a % 4 = a0 → (0 ≤ a0 ∧ a0 < 256) → a0.tmod 4 = a0 → b % 8 = b0 → (0 ≤ b0 ∧ b0 < 256) → b0.tmod 8 = b0 → (∃ L, ctxE litF (shortE T2 G_g0) 3000 40 5 [.int .u8 a0, .int .u8 b0] [] = some (.bool true, L)) → Calls Tryz.prog 5 #[.int .u8 a, .int .u8 b] W fun e W' => e = .returned (.bool true) ∧ Below W.heap.size W W' := by
    rintro a0 b0 qa ra sa qb rb sb ⟨L, hL⟩
    exact calls_of_law (ctxE_ok tryzMixed litF_ok (shortE_ok T2_ok G_g0_ok) 3000 40 5) (.cons (.int _ _) (.cons (.int _ _) .nil)) (by rw [law_mod G_g0_begun G_g0_law a a0 b b0 [] ha ra (by rw [ea, qa, sa]) hb rb (by rw [eb, qb, sb]), hL]) W
  have step1 : ∀ (a0 : Int) (b0 : Int), a % 4 = a0 → (0 ≤ a0 ∧ a0 < 256) → a0.tmod 4 = a0 → b % 8 = b0 → (0 ≤ b0 ∧ b0 < 256) → b0.tmod 8 = b0 → (∃ L, ctxE litF (shortE T2 G_g1) 3000 40 5 [.int .u8 a0, .int .u8 b0] [] = some (.bool true, L)) → Calls Tryz.prog 5 #[.int .u8 a, .int .u8 b] W fun e W' => e = .returned (.bool true) ∧ Below W.heap.size W W' := by
    rintro a0 b0 qa ra sa qb rb sb ⟨L, hL⟩
    exact calls_of_law (ctxE_ok tryzMixed litF_ok (shortE_ok T2_ok G_g1_ok) 3000 40 5) (.cons (.int _ _) (.cons (.int _ _) .nil)) (by rw [law_mod G_g1_begun G_g1_law a a0 b b0 [] ha ra (by rw [ea, qa, sa]) hb rb (by rw [eb, qb, sb]), hL]) W
  have step2 : ∀ (a0 : Int) (b0 : Int), a % 4 = a0 → (0 ≤ a0 ∧ a0 < 256) → a0.tmod 4 = a0 → b % 8 = b0 → (0 ≤ b0 ∧ b0 < 256) → b0.tmod 8 = b0 → (∃ L, ctxE litF (shortE T2 G_g2) 3000 40 5 [.int .u8 a0, .int .u8 b0] [] = some (.bool true, L)) → Calls Tryz.prog 5 #[.int .u8 a, .int .u8 b] W fun e W' => e = .returned (.bool true) ∧ Below W.heap.size W W' := by
    rintro a0 b0 qa ra sa qb rb sb ⟨L, hL⟩
    exact calls_of_law (ctxE_ok tryzMixed litF_ok (shortE_ok T2_ok G_g2_ok) 3000 40 5) (.cons (.int _ _) (.cons (.int _ _) .nil)) (by rw [law_mod G_g2_begun G_g2_law a a0 b b0 [] ha ra (by rw [ea, qa, sa]) hb rb (by rw [eb, qb, sb]), hL]) W
  have step3 : ∀ (a0 : Int) (b0 : Int), a % 4 = a0 → (0 ≤ a0 ∧ a0 < 256) → a0.tmod 4 = a0 → b % 8 = b0 → (0 ≤ b0 ∧ b0 < 256) → b0.tmod 8 = b0 → (∃ L, ctxE litF (shortE T2 G_g3) 3000 40 5 [.int .u8 a0, .int .u8 b0] [] = some (.bool true, L)) → Calls Tryz.prog 5 #[.int .u8 a, .int .u8 b] W fun e W' => e = .returned (.bool true) ∧ Below W.heap.size W W' := by
    rintro a0 b0 qa ra sa qb rb sb ⟨L, hL⟩
    exact calls_of_law (ctxE_ok tryzMixed litF_ok (shortE_ok T2_ok G_g3_ok) 3000 40 5) (.cons (.int _ _) (.cons (.int _ _) .nil)) (by rw [law_mod G_g3_begun G_g3_law a a0 b b0 [] ha ra (by rw [ea, qa, sa]) hb rb (by rw [eb, qb, sb]), hL]) W
  have da : a % 4 = 0 ∨ a % 4 = 1 ∨ a % 4 = 2 ∨ a % 4 = 3 := by omega
  have db : b % 8 = 0 ∨ b % 8 = 1 ∨ b % 8 = 2 ∨ b % 8 = 3 ∨ b % 8 = 4 ∨ b % 8 = 5 ∨ b % 8 = 6 ∨ b % 8 = 7 := by omega
  rcases da with za | za | za | za
  ·
    rcases db with zb | zb | zb | zb | zb | zb | zb | zb
    ·
      exact step0 0 0 za ⟨by decide, by decide⟩ rfl zb ⟨by decide, by decide⟩ rfl r_g0_0
    ·
      exact step0 0 1 za ⟨by decide, by decide⟩ rfl zb ⟨by decide, by decide⟩ rfl r_g0_1
    ·
      exact step0 0 2 za ⟨by decide, by decide⟩ rfl zb ⟨by decide, by decide⟩ rfl r_g0_2
    ·
      exact step0 0 3 za ⟨by decide, by decide⟩ rfl zb ⟨by decide, by decide⟩ rfl r_g0_3
    ·
      exact step0 0 4 za ⟨by decide, by decide⟩ rfl zb ⟨by decide, by decide⟩ rfl r_g0_4
    ·
      exact step0 0 5 za ⟨by decide, by decide⟩ rfl zb ⟨by decide, by decide⟩ rfl r_g0_5
    ·
      exact step0 0 6 za ⟨by decide, by decide⟩ rfl zb ⟨by decide, by decide⟩ rfl r_g0_6
    ·
      exact step0 0 7 za ⟨by decide, by decide⟩ rfl zb ⟨by decide, by decide⟩ rfl r_g0_7
  ·
    rcases db with zb | zb | zb | zb | zb | zb | zb | zb
    ·
      exact step1 1 0 za ⟨by decide, by decide⟩ rfl zb ⟨by decide, by decide⟩ rfl r_g1_0
    ·
      exact step1 1 1 za ⟨by decide, by decide⟩ rfl zb ⟨by decide, by decide⟩ rfl r_g1_1
    ·
      exact step1 1 2 za ⟨by decide, by decide⟩ rfl zb ⟨by decide, by decide⟩ rfl r_g1_2
    ·
      exact step1 1 3 za ⟨by decide, by decide⟩ rfl zb ⟨by decide, by decide⟩ rfl r_g1_3
    ·
      exact step1 1 4 za ⟨by decide, by decide⟩ rfl zb ⟨by decide, by decide⟩ rfl r_g1_4
    ·
      exact step1 1 5 za ⟨by decide, by decide⟩ rfl zb ⟨by decide, by decide⟩ rfl r_g1_5
    ·
      exact step1 1 6 za ⟨by decide, by decide⟩ rfl zb ⟨by decide, by decide⟩ rfl r_g1_6
    ·
      exact step1 1 7 za ⟨by decide, by decide⟩ rfl zb ⟨by decide, by decide⟩ rfl r_g1_7
  ·
    rcases db with zb | zb | zb | zb | zb | zb | zb | zb
    ·
      exact step2 2 0 za ⟨by decide, by decide⟩ rfl zb ⟨by decide, by decide⟩ rfl r_g2_0
    ·
      exact step2 2 1 za ⟨by decide, by decide⟩ rfl zb ⟨by decide, by decide⟩ rfl r_g2_1
    ·
      exact step2 2 2 za ⟨by decide, by decide⟩ rfl zb ⟨by decide, by decide⟩ rfl r_g2_2
    ·
      exact step2 2 3 za ⟨by decide, by decide⟩ rfl zb ⟨by decide, by decide⟩ rfl r_g2_3
    ·
      exact step2 2 4 za ⟨by decide, by decide⟩ rfl zb ⟨by decide, by decide⟩ rfl r_g2_4
    ·
      exact step2 2 5 za ⟨by decide, by decide⟩ rfl zb ⟨by decide, by decide⟩ rfl r_g2_5
    ·
      exact step2 2 6 za ⟨by decide, by decide⟩ rfl zb ⟨by decide, by decide⟩ rfl r_g2_6
    ·
      exact step2 2 7 za ⟨by decide, by decide⟩ rfl zb ⟨by decide, by decide⟩ rfl r_g2_7
  ·
    rcases db with zb | zb | zb | zb | zb | zb | zb | zb
    ·
      exact step3 3 0 za ⟨by decide, by decide⟩ rfl zb ⟨by decide, by decide⟩ rfl r_g3_0
    ·
      exact step3 3 1 za ⟨by decide, by decide⟩ rfl zb ⟨by decide, by decide⟩ rfl r_g3_1
    ·
      exact step3 3 2 za ⟨by decide, by decide⟩ rfl zb ⟨by decide, by decide⟩ rfl r_g3_2
    ·
      exact step3 3 3 za ⟨by decide, by decide⟩ rfl zb ⟨by decide, by decide⟩ rfl r_g3_3
    ·
      exact step3 3 4 za ⟨by decide, by decide⟩ rfl zb ⟨by decide, by decide⟩ rfl r_g3_4
    ·
      exact step3 3 5 za ⟨by decide, by decide⟩ rfl zb ⟨by decide, by decide⟩ rfl r_g3_5
    ·
      exact step3 3 6 za ⟨by decide, by decide⟩ rfl zb ⟨by decide, by decide⟩ rfl r_g3_6
    ·
      exact step3 3 7 za ⟨by decide, by decide⟩ rfl zb ⟨by decide, by decide⟩ rfl r_g3_7

end Go.PE
