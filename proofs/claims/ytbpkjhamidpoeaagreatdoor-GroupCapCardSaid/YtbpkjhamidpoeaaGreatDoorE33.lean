/- A region whose binding edges all go back in the text: its first order is the text's. Nothing of a program stands here. -/
import Derived.Test.YtbpkjhamidpoeaaGreatDoorE2
namespace Go.PE

theorem idxOf_range {n i : Nat} (h : i < n) : (List.range n).idxOf i = i := by
  have h1 : (List.range n)[i]'(by simpa using h) = i := by simp
  have h2 := List.Nodup.idxOf_getElem (List.nodup_range (n := n)) i (by simpa using h)
  rw [h1] at h2; exact h2

theorem go_text {md : Region.Mode} {ops : Array Oper} (h : ∀ i o, ops[i]? = some o → ∀ e ∈ o.after.toList, Region.binds md e = true → e.on < i) :
    ∀ (m k : Nat), k + m = ops.size → ∀ (listed : Array Bool), listed.size = ops.size → (∀ j (hj : j < listed.size), listed[j] = decide (j < k)) →
      Region.linearise.go md ops m 0 listed (List.range k).reverse = List.range ops.size
  | 0, k, hk, listed, hs, hl => by
    have : k = ops.size := by omega
    subst this
    simp [Region.linearise.go]
  | m + 1, k, hk, listed, hs, hl => by
    have hkn : k < ops.size := by omega
    simp only [Region.linearise.go]
    obtain ⟨rest, hr⟩ : ∃ rest, (List.range ops.size).filter (fun i => !listed.getD i true && ((ops[i]?).map (·.after.all fun e => !Region.binds md e || listed.getD e.on false)).getD false) = k :: rest := by
      have e1 : List.range ops.size = List.range k ++ (k :: List.range' (k + 1) m) := by
        rw [List.range_eq_range', List.range_eq_range', show ops.size = k + (m + 1) by omega, ← List.range'_append_1]
        simp [List.range'_succ]
      rw [e1, List.filter_append]
      have e2 : (List.range k).filter (fun i => !listed.getD i true && ((ops[i]?).map (·.after.all fun e => !Region.binds md e || listed.getD e.on false)).getD false) = [] := by
        rw [List.filter_eq_nil_iff]
        intro a ha
        rw [List.mem_range] at ha
        have := hl a (by omega)
        simp only [Array.getD]
        rw [dif_pos (by omega)]
        simp [this, ha]
      rw [e2, List.nil_append, List.filter_cons]
      have e3 : (!listed.getD k true && ((ops[k]?).map (·.after.all fun e => !Region.binds md e || listed.getD e.on false)).getD false) = true := by
        rw [Array.getElem?_eq_getElem hkn]
        simp only [Option.map_some, Option.getD_some, Bool.and_eq_true]
        constructor
        · simp only [Array.getD]
          rw [dif_pos (by omega)]
          simp [hl k (by omega)]
        · rw [Array.all_eq_true]
          intro j hj
          have hm : ops[k].after[j] ∈ ops[k].after.toList := by simp
          cases hb : Region.binds md ops[k].after[j] with
          | false => rfl
          | true =>
            have hlt := h k ops[k] (Array.getElem?_eq_getElem hkn) _ hm hb
            simp only [Array.getD]
            rw [dif_pos (by omega)]
            simp [hl _ (show (ops[k].after[j]).on < listed.size by omega), hlt]
      rw [if_pos e3]
      exact ⟨_, rfl⟩
    rw [hr]
    simp only [Nat.zero_mod, List.getElem?_cons_zero, Nat.zero_div]
    have e4 : k :: (List.range k).reverse = (List.range (k + 1)).reverse := by simp [List.range_succ]
    rw [e4]
    refine go_text h m (k + 1) (by omega) _ (by simpa using hs) ?_
    intro j hj
    have hj' : j < listed.size := by rw [Array.size_setIfInBounds] at hj; exact hj
    rw [Array.getElem_setIfInBounds hj']
    split
    · rename_i c; subst c; simp
    · rename_i c
      rw [hl j hj']
      by_cases hjk : j < k
      · simp [hjk]; omega
      · simp [hjk]; omega

def backOk (md : Region.Mode) (ops : Array Oper) : Bool :=
  ops.toList.zipIdx.all fun p => p.1.after.toList.all fun e => !Region.binds md e || Nat.blt e.on p.2

theorem orderOk_back {md : Region.Mode} {ops : Array Oper} (h : backOk md ops = true) : orderOk md ops = true := by
  have hb : ∀ i o, ops[i]? = some o → ∀ e ∈ o.after.toList, Region.binds md e = true → e.on < i := by
    intro i o ho e he hbd
    unfold backOk at h
    have hm : (o, i) ∈ ops.toList.zipIdx := by
      rw [List.mem_zipIdx_iff_getElem?]
      simpa using ho
    have h1 := List.all_eq_true.1 (List.all_eq_true.1 h _ hm) e he
    rw [hbd] at h1
    simpa using h1
  have hlin : Region.linearise md ops 0 = List.range ops.size := by
    have := go_text hb ops.size 0 (by omega) (Array.replicate ops.size false) (by simp) (by intro j hj; simp)
    simpa [Region.linearise] using this
  unfold orderOk
  simp only [hlin]
  rw [List.all_eq_true]
  intro i hi
  rw [List.mem_range] at hi
  rw [Array.getElem?_eq_getElem hi]
  simp only
  rw [List.all_eq_true]
  intro e he
  cases hbd : Region.binds md e with
  | false => rfl
  | true =>
    have hlt := hb i ops[i] (Array.getElem?_eq_getElem hi) e he hbd
    rw [idxOf_range hi, idxOf_range (show e.on < ops.size by omega)]
    simp; omega

end Go.PE
