/- GroupFew answers alike at inputs that have alike remainders. -/
import Derived.Test.YtcmcijlbmkllpaaGreatDoorK2
import Derived.KernelRfl
namespace Go.PE
open Go.Proofs
set_option maxRecDepth 100000

def moBegun (n : Nat) : Option (IntKind × Int) := if n = 0 then some (.u8, 4) else if n = 8 then some (.u8, 4) else none
def moLaw (n : Nat) : Option (IntKind × Int) := if n = 0 then some (.u8, 4) else if n = 1 then some (.u8, 8) else if n = 14 then some (.u8, 4) else if n = 26 then some (.u8, 8) else none

theorem begunCode : codeOk (moS moBegun) (remOp moBegun []) (moMv moBegun) lit7.body = true := by kernel_rfl
theorem begunRes : lit7.results.all (resOk (moS moBegun)) = true := by kernel_rfl
theorem lawCode : codeOk (moS moLaw) (remOp moLaw [(7, 4)]) (moMv moLaw) lit5.body = true := by kernel_rfl
theorem lawRes : lit5.results.all (resOk (moS moLaw)) = true := by kernel_rfl
theorem begunAt : litF 7 = some lit7 := by kernel_rfl
theorem lawAt : litF 5 = some lit5 := by kernel_rfl

theorem begun_alike (X : Ctx) (a a' : Int) (y : V) (H : Heap) (h0 : 0 ≤ a) (h1 : a < 256) (h0' : 0 ≤ a') (h1' : a' < 256) (h : a.tmod 4 = a'.tmod 4) : evalFunc X 3000 lit7 [.int .u8 a, y] H = evalFunc X 3000 lit7 [.int .u8 a', y] H := by
  have hok := remOp_ok (mo := moBegun) (calls := []) (X := X) (fun p hp => by simp at hp)
  have hargs : ∀ n, Ag (moS moBegun) (modM moBegun) ([.int .u8 a, y] ++ List.replicate n V.undef) ([.int .u8 a', y] ++ List.replicate n V.undef) := ag_args rfl fun n hn => by
    match n, hn with
    | 0, _ => exact .inr ⟨.u8, 4, a, a', rfl, rfl, rfl, h0, h1, h0', h1', h⟩
    | 1, _ => rfl
  exact ag_func (S := moS moBegun) (M := modM moBegun) (X := X) (ok := remOp moBegun []) (mv := moMv moBegun) hok moMv_ok 3000 (f := lit7) begunCode begunRes (args := [.int .u8 a, y]) (args' := [.int .u8 a', y]) rfl hargs H

theorem law_alike (X : Ctx) (hX : ∀ (a a' : Int) (y : V) (H : Heap), 0 ≤ a → a < 256 → 0 ≤ a' → a' < 256 → a.tmod 4 = a'.tmod 4 → X 7 [.int .u8 a, y] H = X 7 [.int .u8 a', y] H) (a a' : Int) (b b' : Int) (H : Heap) (ha : 0 ≤ a ∧ a < 256) (ha' : 0 ≤ a' ∧ a' < 256) (ka : a.tmod 4 = a'.tmod 4) (hb : 0 ≤ b ∧ b < 256) (hb' : 0 ≤ b' ∧ b' < 256) (kb : b.tmod 8 = b'.tmod 8) :
    evalFunc X 3000 lit5 [.int .u8 a, .int .u8 b] H = evalFunc X 3000 lit5 [.int .u8 a', .int .u8 b'] H := by
  have hok := remOp_ok (mo := moLaw) (calls := [(7, 4)]) (X := X) (fun p hp => by
    simp only [List.mem_singleton] at hp
    subst hp
    exact hX)
  have hargs : ∀ n, Ag (moS moLaw) (modM moLaw) ([.int .u8 a, .int .u8 b] ++ List.replicate n V.undef) ([.int .u8 a', .int .u8 b'] ++ List.replicate n V.undef) := ag_args rfl fun n hn => by
    match n, hn with
    | 0, _ => exact .inr ⟨.u8, 4, a, a', rfl, rfl, rfl, ha.1, ha.2, ha'.1, ha'.2, ka⟩
    | 1, _ => exact .inr ⟨.u8, 8, b, b', rfl, rfl, rfl, hb.1, hb.2, hb'.1, hb'.2, kb⟩
  exact ag_func (S := moS moLaw) (M := modM moLaw) (X := X) (ok := remOp moLaw [(7, 4)]) (mv := moMv moLaw) hok moMv_ok 3000 (f := lit5) lawCode lawRes (args := [.int .u8 a, .int .u8 b]) (args' := [.int .u8 a', .int .u8 b']) rfl hargs H

theorem T2_begun (args : List V) : T2 7 args = none := rfl
theorem T2_law (args : List V) : T2 5 args = none := rfl

/-- .. with whatever shortcuts that leave the two functions alone. -/
theorem law_mod {G : HeapS} (hGb : ∀ args g m, G 7 args g m = none) (hGl : ∀ args g m, G 5 args g m = none) (a a' : Int) (b b' : Int) (H : Heap) (ha : 0 ≤ a ∧ a < 256) (ha' : 0 ≤ a' ∧ a' < 256) (ka : a.tmod 4 = a'.tmod 4) (hb : 0 ≤ b ∧ b < 256) (hb' : 0 ≤ b' ∧ b' < 256) (kb : b.tmod 8 = b'.tmod 8) :
    ctxE litF (shortE T2 G) 3000 40 5 [.int .u8 a, .int .u8 b] H = ctxE litF (shortE T2 G) 3000 40 5 [.int .u8 a', .int .u8 b'] H := by
  rw [ctxE_open (short_none T2_law hGl) lawAt, ctxE_open (short_none T2_law hGl) lawAt]
  refine law_alike _ (fun x x' y H h0 h1 h2 h3 h => ?_) a a' b b' H ha ha' ka hb hb' kb
  rw [ctxE_open (short_none T2_begun hGb) begunAt, ctxE_open (short_none T2_begun hGb) begunAt]
  exact begun_alike _ x x' y H h0 h1 h2 h3 h

end Go.PE
