/- GroupStale, its body in pieces; what is reckoned by hand: the tests, and the reads of the list of picks. -/
import Derived.Test.YtcgjkbnijnefjaaGreatDoorK2
import Derived.Test.YtcgjkbnijnefjaaGreatDoorEF
import Derived.KernelRfl
namespace Go.PE
open Go.Proofs Go.RowKit
set_option maxRecDepth 100000

/-- The n-th of codes that lie one behind the other. -/
def spineAt : Nat → ECode → ECode
  | 0, .seq a _ => a
  | n + 1, .seq _ b => spineAt n b
  | _, c => c
/-- .. and what lies behind the first n. -/
def restAt : Nat → ECode → ECode
  | 0, c => c
  | n + 1, .seq _ b => restAt n b
  | _ + 1, c => c

def stA : List ECode := [spineAt 0 lit7.body, spineAt 1 lit7.body]
def stC : List ECode := [spineAt 3 lit7.body, spineAt 4 lit7.body, spineAt 5 lit7.body, spineAt 6 lit7.body, spineAt 7 lit7.body, spineAt 8 lit7.body, spineAt 9 lit7.body, spineAt 10 lit7.body, spineAt 11 lit7.body, spineAt 12 lit7.body]
def stBody : ECode := match spineAt 13 lit7.body with | .seq _ (.block _ (.loop (.seq _ (.seq (.block _ b) _)))) => b | _ => .fail
def stOps2 : List EOper := match stBody with | .seq (.ops l) _ => l.drop 9 | _ => []
def stR : ECode := match stBody with | .seq _ r => r | _ => .fail
def stRest : ECode := restAt 14 lit7.body
def stTest : ECode := .seq (.ops [⟨some 20, .move (.t 2), none⟩, ⟨some 21, .len false (.t 20), none⟩, ⟨some 22, .bin .gtr (.t 21) (.c (.int .i64 60)), none⟩]) (.cond (.t 22) (.seq (.ops [⟨some 6, .move (.c (.bool true)), none⟩]) .ret) .skip)
def stI : ECode := .ops [⟨some 15, .move (.c (.int .i64 0)), none⟩]
def stT : ECode := .seq (.ops [⟨some 111, .move (.t 15), none⟩, ⟨some 112, .move (.t 2), none⟩, ⟨some 113, .len false (.t 112), none⟩, ⟨some 114, .bin .lss (.t 111) (.t 113), none⟩]) (.cond (.t 114) .skip (.exit 6))
def stOps1 : List EOper := [⟨some 117, .move (.t 8), none⟩, ⟨some 118, .move (.t 2), none⟩, ⟨some 119, .move (.t 15), none⟩, ⟨some 120, .indexAddrSl 1 (.t 118) (.t 119), none⟩, ⟨some 121, .load false 1 (.t 120), none⟩, ⟨some 122, .conv .i64 (.t 121), none⟩,
  ⟨some 123, .move (.t 8), none⟩, ⟨some 124, .len false (.t 123), none⟩, ⟨some 125, .bin .rem (.t 122) (.t 124), none⟩]
def stPost : ECode := .ops [⟨some 115, .move (.t 15), none⟩, ⟨some 116, .bin .add (.t 115) (.c (.int .i64 1)), none⟩, ⟨some 15, .move (.t 116), none⟩]
/-- A round's own part, behind what is reckoned by hand. -/
def stB : ECode := .block 7 (.seq (.ops stOps2) stR)
def stLoop : ECode := .seq stT (.seq (.block 7 (.seq (.ops (stOps1 ++ stOps2)) stR)) stPost)

theorem st_body : lit7.body = app stA (.seq stTest (app stC (.seq (.seq stI (.block 6 (.loop stLoop))) stRest))) := by kernel_rfl

def DC : Nat := 2 ^ 2 ||| 2 ^ 20 ||| 2 ^ 21
/-- Slots with values of a run's own, in the loop. -/
def dlL : List Nat := [2, 15, 20, 21, 111, 112, 113, 114, 115, 116, 117, 118, 119, 120, 121, 122, 123, 124, 125]
def ddL : List Nat := [16, 126, 127, 128, 129, 130, 131, 132, 133, 134, 135, 136, 137, 138, 139, 140, 141, 142, 143, 144, 145, 146, 147, 148]
def DL : Nat := dlL.foldr (fun t s => 2 ^ t ||| s) 0
def DD : Nat := ddL.foldr (fun t s => 2 ^ t ||| s) 0
def DB1 : Nat := (dlL.filter fun t => t != 117 && t != 125).foldr (fun t s => 2 ^ t ||| s) 0
def DB : Nat := DB1 ||| DD

theorem stA_s : strip (app stA .skip) = app stA .skip := by kernel_rfl
theorem stA_c : (chk (app stA .skip) 4).map (fun outs => (exD outs .normal, wrt (app stA .skip) &&& 4)) = some (4, 0) := by kernel_rfl
theorem stC_s : strip (app stC .skip) = app stC .skip := by kernel_rfl
theorem stC_c : (chk (app stC .skip) DC).map (fun outs => (exD outs .normal, wrt (app stC .skip) &&& DC)) = some (DC, 0) := by kernel_rfl
theorem stB_s : strip stB = stB := by kernel_rfl
theorem stB_c : (chk stB DB).map (fun outs => (exD outs .normal, wrt stB &&& DB1)) = some (DB1, 0) := by kernel_rfl
theorem stRest_s : strip stRest = stRest := by kernel_rfl
theorem stRest_c : (chk stRest (DL ||| DD)).map (fun outs => (exD outs .ret).testBit 6) = some false := by kernel_rfl

section
variable (X : Ctx) (fuel : Nat)

theorem ops_cons {k : Nat} {op : EOp} {l : List EOper} {e : Env} {H : Heap} {v : V} (h : evalOp X e H op = some (v, H)) : evalOps X (⟨some k, op, none⟩ :: l) e H = evalOps X l (e.set k v) H := by
  have h1 : evalOper X ⟨some k, op, none⟩ e H = some (e.set k v, H) := by
    unfold evalOper
    rw [if_pos (show EOper.wanted _ e = true from rfl), h]
    rfl
  simp only [evalOps, h1, Option.bind_some]

theorem get_ne {e : Env} {k n : Nat} {v : V} (h : n ≠ k) : (e.set k v).getD n V.undef = e.getD n V.undef := by
  rw [set_getD, if_neg (fun c => h c.1)]
theorem get_eq {e : Env} {k : Nat} {v : V} (h : k < e.length) : (e.set k v).getD k V.undef = v := by
  rw [set_getD, if_pos ⟨rfl, h⟩]

theorem st_test_run {e : Env} (hl : e.length = 169) {pv : V} {L : Nat} (h2 : e.getD 2 V.undef = pv) (hL : lenK false pv = some L) (H : Heap) :
    evalCode X fuel stTest e H = if 60 < L then some (.ret, (((e.set 20 pv).set 21 (.int .i64 (L : Int))).set 22 (.bool true)).set 6 (.bool true), H) else some (.normal, ((e.set 20 pv).set 21 (.int .i64 (L : Int))).set 22 (.bool false), H) := by
  have hlv : lenV false pv = some (.int .i64 (L : Int)) := by unfold lenV; rw [hL]
  have s1 : evalOps X [⟨some 20, .move (.t 2), none⟩, ⟨some 21, .len false (.t 20), none⟩, ⟨some 22, .bin .gtr (.t 21) (.c (.int .i64 60)), none⟩] e H = some (((e.set 20 pv).set 21 (.int .i64 (L : Int))).set 22 (.bool (decide ((L : Int) > 60))), H) := by
    rw [ops_cons X (v := pv) (by simp only [evalOp, Opd.ev, h2]),
      ops_cons X (v := .int .i64 (L : Int)) (by simp only [evalOp, Opd.ev]; rw [get_eq (by omega), hlv]; rfl),
      ops_cons X (v := .bool (decide ((L : Int) > 60))) (by simp only [evalOp, Opd.ev]; rw [get_eq (by simp [hl])]; rfl)]
    rfl
  unfold stTest
  simp only [evalCode, s1, Option.map_some]
  have h22 : Opd.ev (((e.set 20 pv).set 21 (.int .i64 (L : Int))).set 22 (.bool (decide ((L : Int) > 60)))) (.t 22) = .bool (decide ((L : Int) > 60)) := by
    simp only [Opd.ev]; rw [get_eq (by simp [hl])]
  rw [h22]
  by_cases h : 60 < L
  · rw [if_pos h, decide_eq_true (show (L : Int) > 60 by omega)]
    simp only
    rw [ops_cons X (v := .bool true) rfl]
    rfl
  · rw [if_neg h, decide_eq_false (show ¬ (L : Int) > 60 by omega)]

/-- Behind the loop's test. -/
def stTested (e : Env) (pv : V) (i L : Nat) : Env := (((e.set 111 (.int .i64 (i : Int))).set 112 pv).set 113 (.int .i64 (L : Int))).set 114 (.bool (decide (i < L)))

theorem st_T_run {e : Env} (hl : e.length = 169) {pv : V} {L i : Nat} (h2 : e.getD 2 V.undef = pv) (hL : lenK false pv = some L) (h15 : e.getD 15 V.undef = .int .i64 (i : Int)) (H : Heap) :
    evalCode X fuel stT e H = some (if i < L then .normal else .exit 6, stTested e pv i L, H) := by
  have hlv : lenV false pv = some (.int .i64 (L : Int)) := by unfold lenV; rw [hL]
  have hlt : decide ((i : Int) < (L : Int)) = decide (i < L) := decide_eq_decide.2 (by omega)
  have s1 : evalOps X [⟨some 111, .move (.t 15), none⟩, ⟨some 112, .move (.t 2), none⟩, ⟨some 113, .len false (.t 112), none⟩, ⟨some 114, .bin .lss (.t 111) (.t 113), none⟩] e H = some (stTested e pv i L, H) := by
    rw [ops_cons X (v := .int .i64 (i : Int)) (by simp only [evalOp, Opd.ev, h15]),
      ops_cons X (v := pv) (by simp only [evalOp, Opd.ev]; rw [get_ne (by decide), h2]),
      ops_cons X (v := .int .i64 (L : Int)) (by simp only [evalOp, Opd.ev]; rw [get_eq (by simp [hl]), hlv]; rfl),
      ops_cons X (v := .bool (decide (i < L))) (by
        simp only [evalOp, Opd.ev]
        rw [get_eq (by simp [hl]), get_ne (by decide), get_ne (by decide), get_eq (by simp [hl])]
        simp only [binE, arithE, pure1, hlt]; rfl)]
    rfl
  unfold stT
  simp only [evalCode, s1, Option.map_some]
  have h114 : Opd.ev (stTested e pv i L) (.t 114) = .bool (decide (i < L)) := by
    simp only [Opd.ev, stTested]; rw [get_eq (by simp [hl])]
  rw [h114]
  by_cases h : i < L
  · rw [if_pos h, decide_eq_true h]
  · rw [if_neg h, decide_eq_false h]

/-- Behind the reads by hand. -/
def stRead (e : Env) (pv all : V) (i c M : Nat) : Env :=
  ((((((((e.set 117 all).set 118 pv).set 119 (.int .i64 (i : Int))).set 120 (.pptr [.int .u8 (c : Int)])).set 121 (.int .u8 (c : Int))).set 122 (.int .i64 (c : Int))).set 123 all).set 124 (.int .i64 (M : Int))).set 125 (.int .i64 ((c % M : Nat) : Int))

theorem st_ops1_run {e : Env} (hl : e.length = 169) {pv all : V} {i c M : Nat} (h2 : e.getD 2 V.undef = pv) (h8 : e.getD 8 V.undef = all) (h15 : e.getD 15 V.undef = .int .i64 (i : Int)) (hix : indexAddrSlE 1 pv (.int .i64 (i : Int)) = some (.pptr [.int .u8 (c : Int)]))
    (hc : c < 256) (hM : lenK false all = some M) (hM0 : 0 < M) (H : Heap) : evalOps X stOps1 e H = some (stRead e pv all i c M, H) := by
  have hlv : lenV false all = some (.int .i64 (M : Int)) := by unfold lenV; rw [hM]
  have hw : IntKind.i64.wrap (c : Int) = (c : Int) := by
    simp only [IntKind.wrap, IntKind.bits, IntKind.signed]
    have h1 : ((c : Int) % (2 : Int) ^ 64) = c := Int.emod_eq_of_lt (by omega) (by omega)
    simp only [h1]
    rw [if_neg]
    simp only [Bool.true_and, decide_eq_true_eq]
    omega
  have hr : arithE .rem .i64 (c : Int) (M : Int) = some (.int .i64 ((c % M : Nat) : Int)) := by
    simp only [arithE]
    rw [if_neg (by omega)]
    rfl
  unfold stOps1
  rw [ops_cons X (v := all) (by simp only [evalOp, Opd.ev, h8]),
    ops_cons X (v := pv) (by simp only [evalOp, Opd.ev]; rw [get_ne (by decide), h2]),
    ops_cons X (v := .int .i64 (i : Int)) (by simp only [evalOp, Opd.ev]; rw [get_ne (by decide), get_ne (by decide), h15]),
    ops_cons X (v := .pptr [.int .u8 (c : Int)]) (by
      simp only [evalOp, Opd.ev]
      rw [get_ne (by decide), get_eq (by simp [hl]), get_eq (by simp [hl]), hix]; rfl),
    ops_cons X (v := .int .u8 (c : Int)) (by simp only [evalOp, Opd.ev]; rw [get_eq (by simp [hl])]; rfl),
    ops_cons X (v := .int .i64 (c : Int)) (by simp only [evalOp, Opd.ev]; rw [get_eq (by simp [hl])]; simp only [hw]),
    ops_cons X (v := all) (by
      simp only [evalOp, Opd.ev]
      rw [get_ne (by decide), get_ne (by decide), get_ne (by decide), get_ne (by decide), get_ne (by decide), get_ne (by decide), h8]),
    ops_cons X (v := .int .i64 (M : Int)) (by simp only [evalOp, Opd.ev]; rw [get_eq (by simp [hl]), hlv]; rfl),
    ops_cons X (v := .int .i64 ((c % M : Nat) : Int)) (by
      simp only [evalOp, Opd.ev]
      rw [get_eq (by simp [hl]), get_ne (by decide), get_ne (by decide), get_eq (by simp [hl])]
      simp only [binE]
      rw [if_neg (by decide), if_pos trivial, hr]; rfl)]
  rfl

theorem st_post_run {e : Env} (hl : e.length = 169) {i : Nat} (hi : i < 1000) (h15 : e.getD 15 V.undef = .int .i64 (i : Int)) (H : Heap) :
    evalCode X fuel stPost e H = some (.normal, ((e.set 115 (.int .i64 (i : Int))).set 116 (.int .i64 ((i + 1 : Nat) : Int))).set 15 (.int .i64 ((i + 1 : Nat) : Int)), H) := by
  have hw : IntKind.i64.wrap ((i : Int) + 1) = ((i + 1 : Nat) : Int) := by
    simp only [IntKind.wrap, IntKind.bits, IntKind.signed]
    have h1 : (((i : Int) + 1) % (2 : Int) ^ 64) = (i : Int) + 1 := Int.emod_eq_of_lt (by omega) (by omega)
    simp only [h1]
    rw [if_neg (by simp only [Bool.true_and, decide_eq_true_eq]; omega)]
    simp
  unfold stPost
  simp only [evalCode]
  rw [ops_cons X (v := .int .i64 (i : Int)) (by simp only [evalOp, Opd.ev, h15]),
    ops_cons X (v := .int .i64 ((i + 1 : Nat) : Int)) (by
      simp only [evalOp, Opd.ev]
      rw [get_eq (by omega)]
      simp only [binE]
      rw [if_neg (by decide), if_pos trivial]
      simp only [arithE, hw]; rfl),
    ops_cons X (v := .int .i64 ((i + 1 : Nat) : Int)) (by simp only [evalOp, Opd.ev]; rw [get_eq (by simp [hl])])]
  rfl

theorem evalOps_append : ∀ (l m : List EOper) {e e1 : Env} {H H1 : Heap}, evalOps X l e H = some (e1, H1) → evalOps X (l ++ m) e H = evalOps X m e1 H1
  | [], m, e, e1, H, H1, h => by
    simp only [evalOps, Option.some.injEq, Prod.mk.injEq] at h
    obtain ⟨rfl, rfl⟩ := h
    rfl
  | o :: l, m, e, e1, H, H1, h => by
    simp only [evalOps, Option.bind_eq_some_iff] at h
    obtain ⟨⟨e2, H2⟩, h1, h2⟩ := h
    simp only [List.cons_append, evalOps, h1, Option.bind_some]
    exact evalOps_append l m h2

/-- The round's part runs as its rest behind the reads. -/
theorem st_block_run {e e1 : Env} {H : Heap} (h : evalOps X stOps1 e H = some (e1, H)) : evalCode X fuel (.block 7 (.seq (.ops (stOps1 ++ stOps2)) stR)) e H = evalCode X fuel stB e1 H := by
  unfold stB
  simp only [evalCode, evalOps_append X stOps1 stOps2 h]

end
end Go.PE
