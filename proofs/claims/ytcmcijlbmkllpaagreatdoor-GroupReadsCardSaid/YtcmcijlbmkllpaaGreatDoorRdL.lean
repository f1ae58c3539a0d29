/- GroupReads, its body in pieces: the beginning, the loop, the tail; from phases between checkpoints to the call. -/
import Derived.Test.YtcmcijlbmkllpaaGreatDoorK2
import Derived.KernelRfl
namespace Go.PE
open Go.Proofs Go.RowKit
set_option maxRecDepth 100000

def rdPre : List ECode := [spineAt 0 lit3.body, spineAt 1 lit3.body, spineAt 2 lit3.body, spineAt 3 lit3.body, spineAt 4 lit3.body, spineAt 5 lit3.body, spineAt 6 lit3.body, spineAt 7 lit3.body]
def rdK : ECode := match spineAt 8 lit3.body with | .seq a _ => a | _ => .fail
def rdCond : ECode := match spineAt 8 lit3.body with | .seq _ (.block _ (.loop (.seq a _))) => a | _ => .fail
def rdBlk : ECode := match spineAt 8 lit3.body with | .seq _ (.block _ (.loop (.seq _ b))) => b | _ => .fail
def rdPost : ECode := restAt 9 lit3.body

theorem rd_body : lit3.body = app rdPre (.seq (.seq rdK (.block 0 (.loop (.seq rdCond rdBlk)))) rdPost) := by kernel_rfl

theorem rd_cond : rdCond = .seq (.ops [⟨some 57, .move (.t 11), none⟩, ⟨some 58, .move (.t 1), none⟩, ⟨some 59, .bin .rem (.t 58) (.c (.int .u8 12)), none⟩, ⟨some 60, .conv .i64 (.t 59), none⟩, ⟨some 61, .bin .leq (.t 57) (.t 60), none⟩]) (.cond (.t 61) .skip (.exit 0)) := by kernel_rfl

/-- The slots in which runs differ: the inputs' own; those of the loop's test; those of 'who'. -/
def rdIn : List Nat := [0, 16, 1, 2, 31]
def rdTest : List Nat := [58, 59, 60]
def rdWho : List Nat := [2, 9, 31, 32, 33, 35, 38, 39, 44, 45, 46, 48]
def rdS (j : Nat) : Bool := rdIn.contains j || (rdTest.contains j || rdWho.contains j)

theorem rdK_ok : codeOk rdS (fun _ => false) (fun _ => false) rdK = true := by kernel_rfl
theorem rdBlk_ok : codeOk rdS (fun _ => false) (fun _ => false) rdBlk = true := by kernel_rfl
theorem rdPost_ok : codeOk rdS (fun _ => false) (fun _ => false) rdPost = true := by kernel_rfl

/-- The environment behind the loop's test. -/
def rdTested (e : Env) (k b : Int) : Env :=
  ((((e.set 57 (.int .i64 k)).set 58 (.int .u8 b)).set 59 (.int .u8 (b.tmod 12))).set 60 (.int .i64 (b.tmod 12))).set 61 (.bool (decide (k ≤ b.tmod 12)))

theorem rd_test (X : Ctx) (fuel : Nat) {e : Env} (hl : e.length = 139) {k b : Int} (h11 : e.getD 11 V.undef = .int .i64 k) (h1 : e.getD 1 V.undef = .int .u8 b) (hb : 0 ≤ b) (H : Heap) :
    evalCode X fuel rdCond e H = some (if k ≤ b.tmod 12 then .normal else .exit 0, rdTested e k b, H) := by
  have hm0 : 0 ≤ b.tmod 12 := Int.tmod_nonneg 12 hb
  have hm1 : b.tmod 12 < 256 := Int.lt_trans (Int.tmod_lt_of_pos b (by decide)) (by decide)
  have hw : IntKind.i64.wrap (b.tmod 12) = b.tmod 12 := wrap_byte (by decide) hm0 hm1
  rw [rd_cond]
  have s1 : evalOps X [⟨some 57, .move (.t 11), none⟩, ⟨some 58, .move (.t 1), none⟩, ⟨some 59, .bin .rem (.t 58) (.c (.int .u8 12)), none⟩, ⟨some 60, .conv .i64 (.t 59), none⟩, ⟨some 61, .bin .leq (.t 57) (.t 60), none⟩] e H = some (rdTested e k b, H) := by
    simp only [evalOps, evalOper, EOper.wanted, if_true, evalOp, Opd.ev, Env.put, Option.map_some, Option.bind_some, h11, getD_set, hl, List.length_set]
    simp only [show ¬ ((1 : Nat) = 57 ∧ 57 < 139) by decide, if_false, h1, show ((58 : Nat) = 58 ∧ 58 < 139) by decide]
    simp [binE, arithE, pure1, hw, hl, rdTested]
  simp only [evalCode, s1, Option.map_some]
  have h61 : Opd.ev (rdTested e k b) (.t 61) = .bool (decide (k ≤ b.tmod 12)) := by
    simp only [Opd.ev, rdTested, getD_set, List.length_set, hl]
    simp
  rw [h61]
  by_cases h : k ≤ b.tmod 12
  · simp [h]
  · simp [h]

end Go.PE
