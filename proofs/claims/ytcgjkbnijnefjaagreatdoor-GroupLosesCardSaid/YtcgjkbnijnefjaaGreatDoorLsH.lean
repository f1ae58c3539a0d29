/- GroupLoses: the small pieces of its loops, by hand. -/
import Derived.Test.YtcgjkbnijnefjaaGreatDoorEF
namespace Go.PE
set_option maxRecDepth 100000

/-- These operations run, and leave a row of slots of this kind. -/
def Does (X : Ctx) (l : List EOper) (e : Env) (H : Heap) (Q : Env → Prop) : Prop := ∃ e1, evalOps X l e H = some (e1, H) ∧ Q e1

section
variable {X : Ctx} {os : List EOper} {e : Env} {H : Heap} {Q : Env → Prop} {d t : Nat} {op : EOp} {v : V} {b : Bool}

theorem Does.nil (h : Q e) : Does X [] e H Q := ⟨e, rfl, h⟩
theorem Does.go (v : V) (h : evalOp X e H op = some (v, H)) (k : Does X os (e.set d v) H Q) : Does X (⟨some d, op, none⟩ :: os) e H Q := by
  obtain ⟨e1, h1, h2⟩ := k
  exact ⟨e1, by simp only [evalOps, evalOper, EOper.wanted, if_true, h, Option.map_some, Option.bind_some, Env.put]; exact h1, h2⟩
theorem Does.yes (v : V) (hg : e.getD t V.undef = .bool b) (h : evalOp X e H op = some (v, H)) (k : Does X os (e.set d v) H Q) : Does X (⟨some d, op, some (t, b)⟩ :: os) e H Q := by
  obtain ⟨e1, h1, h2⟩ := k
  exact ⟨e1, by simp only [evalOps, evalOper, EOper.wanted, hg, beq_self_eq_true, if_true, h, Option.map_some, Option.bind_some, Env.put]; exact h1, h2⟩
theorem Does.no {c : Bool} (hg : e.getD t V.undef = .bool c) (hc : (c == b) = false) (k : Does X os (e.set d V.undef) H Q) : Does X (⟨some d, op, some (t, b)⟩ :: os) e H Q := by
  obtain ⟨e1, h1, h2⟩ := k
  exact ⟨e1, by simp only [evalOps, evalOper, EOper.wanted, hg, hc, Bool.false_eq_true, if_false, Option.bind_some, Env.put]; exact h1, h2⟩
theorem ev_move {x : Nat} {v : V} (h : e.getD x V.undef = v) : evalOp X e H (.move (.t x)) = some (v, H) := by simp only [evalOp, Opd.ev, h]
end

/-- Is there another message? -/
def c2 : List EOper := [⟨(some 53), .move (.t 11), none⟩, ⟨(some 54), .bin .lss (.t 53) (.c (.int .i64 200)), none⟩, ⟨(some 55), .move (.t 54), none⟩, ⟨(some 56), .move (.t 7), some (55, true)⟩, ⟨(some 57), .nilc (.t 56), some (55, true)⟩, ⟨(some 58), .fieldAddr 7 (.t 57), some (55, true)⟩, ⟨(some 59), .load false 1 (.t 58), some (55, true)⟩, ⟨(some 60), .len false (.t 59), some (55, true)⟩, ⟨(some 61), .bin .gtr (.t 60) (.c (.int .i64 0)), some (55, true)⟩, ⟨(some 62), .pick (.t 55) (.t 61) (.c (.bool false)), none⟩]
/-- Is it lost? -/
def c3 : List EOper := [⟨(some 65), .move (.t 9), none⟩, ⟨(some 66), .move (.t 1), none⟩, ⟨(some 67), .len false (.t 66), none⟩, ⟨(some 68), .bin .lss (.t 65) (.t 67), none⟩, ⟨(some 69), .move (.t 68), none⟩, ⟨(some 70), .move (.t 1), some (69, true)⟩, ⟨(some 71), .move (.t 9), some (69, true)⟩, ⟨(some 72), .indexAddrSl 1 (.t 70) (.t 71), some (69, true)⟩, ⟨(some 73), .load false 1 (.t 72), some (69, true)⟩, ⟨(some 74), .pick (.t 69) (.t 73) (.c (.bool false)), none⟩]
/-- Another round? -/
def c0 : List EOper := [⟨(some 41), .move (.t 10), none⟩, ⟨(some 42), .bin .lss (.t 41) (.c (.int .i64 120)), none⟩, ⟨(some 43), .move (.t 42), none⟩, ⟨(some 44), .move (.t 7), some (43, true)⟩, ⟨(some 45), .nilc (.t 44), some (43, true)⟩, ⟨(some 46), .fieldAddr 8 (.t 45), some (43, true)⟩, ⟨(some 47), .load false 1 (.t 46), some (43, true)⟩, ⟨(some 48), .len false (.t 47), some (43, true)⟩, ⟨(some 49), .eq false (.leaf .int) (.t 48) (.c (.int .i64 0)), some (43, true)⟩, ⟨(some 50), .pick (.t 43) (.t 49) (.c (.bool false)), none⟩]
def inc9 : List EOper := [⟨(some 85), .move (.t 9), none⟩, ⟨(some 86), .bin .add (.t 85) (.c (.int .i64 1)), none⟩, ⟨(some 9), .move (.t 86), none⟩]
def inc11 : List EOper := [⟨(some 63), .move (.t 11), none⟩, ⟨(some 64), .bin .add (.t 63) (.c (.int .i64 1)), none⟩, ⟨(some 11), .move (.t 64), none⟩]
def inc10 : List EOper := [⟨(some 51), .move (.t 10), none⟩, ⟨(some 52), .bin .add (.t 51) (.c (.int .i64 1)), none⟩, ⟨(some 10), .move (.t 52), none⟩]

section
variable {X : Ctx} {e : Env} {H : Heap}

/-- .. in slots from 41 on alone. -/
def Same41 (e1 e : Env) : Prop := e1.length = 164 ∧ ∀ t, t < 41 → e1.getD t V.undef = e.getD t V.undef

theorem wrap_nat {n : Nat} (h : n < 100000) : IntKind.i64.wrap (n : Int) = (n : Int) := wrap_small (by omega) (by omega)

theorem get_of (hl : e.length = 164) {t : Nat} (ht : t < 164) {v : V} (h : e.getD t V.undef = v) : e[t]'(by omega) = v := by
  rw [List.getD_eq_getElem?_getD, List.getElem?_eq_getElem (by omega)] at h
  exact h

theorem Same41.refl (hl : e.length = 164) : Same41 e e := ⟨hl, fun _ _ => rfl⟩
theorem Same41.set {e1 : Env} (h : Same41 e1 e) {d : Nat} (hd : 41 ≤ d) {v : V} : Same41 (e1.set d v) e :=
  ⟨by rw [List.length_set]; exact h.1, fun t ht => by rw [set_getD, if_neg (fun c => by omega)]; exact h.2 t ht⟩

theorem c2_run (hl : e.length = 164) {i m : Nat} (hi : i < 200) (h11 : e.getD 11 V.undef = .int .i64 (i : Int)) (h7 : e.getD 7 V.undef = .ptr 0 0 0 9) {bv : V} (hb : loadE false 1 (.ptr 0 0 7 2) H = some bv) (hm : lenK false bv = some m) :
    Does X c2 e H fun e1 => Same41 e1 e ∧ e1.getD 62 V.undef = .bool (decide (0 < m)) := by
  have hlv : lenV false bv = some (.int .i64 (m : Int)) := by unfold lenV; rw [hm]
  have k7 := get_of hl (by decide) h7
  have hg : decide ((m : Int) > 0) = decide (0 < m) := decide_eq_decide.2 (by omega)
  have hlt : decide ((i : Int) < 200) = true := decide_eq_true (by omega)
  refine .go (.int .i64 (i : Int)) (ev_move h11) (.go (.bool true) ?_ (.go (.bool true) (ev_move ?_) (.yes (.ptr 0 0 0 9) ?_ (ev_move ?_) (.yes (.ptr 0 0 0 9) ?_ ?_ (.yes (.ptr 0 0 7 2) ?_ ?_ (.yes bv ?_ ?_ (.yes (.int .i64 (m : Int)) ?_ ?_ (.yes (.bool (decide (0 < m))) ?_ ?_ (.go (.bool (decide (0 < m))) ?_ (.nil ⟨?same, ?_⟩))))))))))
  case same => repeat' (first | exact Same41.refl hl | refine Same41.set ?_ (by decide))
  all_goals simp [hl, k7, evalOp, Opd.ev, fieldAddrE, hb, hlv, binE, arithE, pure1, hlt]

theorem c0_run (hl : e.length = 164) {r m : Nat} (hr : r < 120) (h10 : e.getD 10 V.undef = .int .i64 (r : Int)) (h7 : e.getD 7 V.undef = .ptr 0 0 0 9) {bv : V} (hb : loadE false 1 (.ptr 0 0 8 1) H = some bv) (hm : lenK false bv = some m) :
    Does X c0 e H fun e1 => Same41 e1 e ∧ e1.getD 50 V.undef = .bool (decide (m = 0)) := by
  have hlv : lenV false bv = some (.int .i64 (m : Int)) := by unfold lenV; rw [hm]
  have k7 := get_of hl (by decide) h7
  have hg : ((m : Int) == 0) = decide (m = 0) := by
    by_cases h : m = 0
    · subst h; rfl
    · rw [decide_eq_false h]
      simp only [beq_eq_false_iff_ne, ne_eq]
      omega
  have hlt : decide ((r : Int) < 120) = true := decide_eq_true (by omega)
  refine .go (.int .i64 (r : Int)) (ev_move h10) (.go (.bool true) ?_ (.go (.bool true) (ev_move ?_) (.yes (.ptr 0 0 0 9) ?_ (ev_move ?_) (.yes (.ptr 0 0 0 9) ?_ ?_ (.yes (.ptr 0 0 8 1) ?_ ?_ (.yes bv ?_ ?_ (.yes (.int .i64 (m : Int)) ?_ ?_ (.yes (.bool (decide (m = 0))) ?_ ?_ (.go (.bool (decide (m = 0))) ?_ (.nil ⟨?same, ?_⟩))))))))))
  case same => repeat' (first | exact Same41.refl hl | refine Same41.set ?_ (by decide))
  all_goals simp [hl, k7, evalOp, Opd.ev, fieldAddrE, hb, hlv, binE, arithE, pure1, hg, hlt, eqE, eqLeaf, eqLeaf3]

theorem c3_run (hl : e.length = 164) {pv : V} {n a : Nat} (h1 : e.getD 1 V.undef = pv) (h9 : e.getD 9 V.undef = .int .i64 (a : Int)) (hn : lenK false pv = some n) (hb : a < n → ∃ b, indexAddrSlE 1 pv (.int .i64 (a : Int)) = some (.pptr [V.bool b])) :
    ∃ b : Bool, (n ≤ a → b = false) ∧ Does X c3 e H fun e1 => Same41 e1 e ∧ e1.getD 74 V.undef = .bool b := by
  have k1 := get_of hl (by decide) h1
  have k9 := get_of hl (by decide) h9
  have hlv : lenV false pv = some (.int .i64 (n : Int)) := by unfold lenV; rw [hn]
  by_cases h : a < n
  · obtain ⟨b, hv⟩ := hb h
    have hlt : decide ((a : Int) < (n : Int)) = true := decide_eq_true (by omega)
    refine ⟨b, fun hn => by omega, .go (.int .i64 (a : Int)) (ev_move h9) (.go pv (ev_move ?_) (.go (.int .i64 (n : Int)) ?_ (.go (.bool true) ?_ (.go (.bool true) (ev_move ?_) (.yes pv ?_ (ev_move ?_) (.yes (.int .i64 (a : Int)) ?_ (ev_move ?_) (.yes (.pptr [.bool b]) ?_ ?_ (.yes (.bool b) ?_ ?_ (.go (.bool b) ?_ (.nil ⟨?same, ?_⟩))))))))))⟩
    case same => repeat' (first | exact Same41.refl hl | refine Same41.set ?_ (by decide))
    all_goals simp [hl, k1, k9, evalOp, Opd.ev, hlv, binE, arithE, pure1, hv, loadE, mk, h]
  · have hlt : decide ((a : Int) < (n : Int)) = false := decide_eq_false (by omega)
    refine ⟨false, fun _ => rfl, .go (.int .i64 (a : Int)) (ev_move h9) (.go pv (ev_move ?_) (.go (.int .i64 (n : Int)) ?_ (.go (.bool false) ?_ (.go (.bool false) (ev_move ?_) (.no (c := false) ?_ rfl (.no (c := false) ?_ rfl (.no (c := false) ?_ rfl (.no (c := false) ?_ rfl (.go (.bool false) ?_ (.nil ⟨?same, ?_⟩))))))))))⟩
    case same => repeat' (first | exact Same41.refl hl | refine Same41.set ?_ (by decide))
    all_goals simp [hl, k1, evalOp, Opd.ev, hlv, binE, arithE, pure1, h]

/-- .. in slots from 18 on alone. -/
def Same18 (e1 e : Env) : Prop := e1.length = 164 ∧ ∀ t, t < 18 → e1.getD t V.undef = e.getD t V.undef
theorem Same18.refl (hl : e.length = 164) : Same18 e e := ⟨hl, fun _ _ => rfl⟩
theorem Same18.set {e1 : Env} (h : Same18 e1 e) {d : Nat} (hd : 18 ≤ d) {v : V} : Same18 (e1.set d v) e :=
  ⟨by rw [List.length_set]; exact h.1, fun t ht => by rw [set_getD, if_neg (fun c => by omega)]; exact h.2 t ht⟩

/-- Are the rows too long? -/
def cL : List EOper := [⟨(some 18), .move (.t 1), none⟩, ⟨(some 19), .len false (.t 18), none⟩, ⟨(some 20), .bin .gtr (.t 19) (.c (.int .i64 100)), none⟩, ⟨(some 21), .move (.t 20), none⟩, ⟨(some 22), .move (.t 2), some (21, false)⟩, ⟨(some 23), .len true (.t 22), some (21, false)⟩, ⟨(some 24), .bin .gtr (.t 23) (.c (.int .i64 16)), some (21, false)⟩, ⟨(some 25), .pick (.t 21) (.c (.bool true)) (.t 24), none⟩]

theorem cL_more (hl : e.length = 164) {pv : V} {n : Nat} (h1 : e.getD 1 V.undef = pv) (hn : lenK false pv = some n) (h : 100 < n) : Does X cL e H fun e1 => Same18 e1 e ∧ e1.getD 25 V.undef = .bool true := by
  have hlv : lenV false pv = some (.int .i64 (n : Int)) := by unfold lenV; rw [hn]
  have hlt : decide ((n : Int) > 100) = true := decide_eq_true (by omega)
  refine .go pv (ev_move h1) (.go (.int .i64 (n : Int)) ?_ (.go (.bool true) ?_ (.go (.bool true) (ev_move ?_) (.no (c := true) ?_ rfl (.no (c := true) ?_ rfl (.no (c := true) ?_ rfl (.go (.bool true) ?_ (.nil ⟨?same, ?_⟩))))))))
  case same => repeat' (first | exact Same18.refl hl | refine Same18.set ?_ (by decide))
  all_goals simp [hl, evalOp, Opd.ev, hlv, binE, arithE, pure1, hlt]

theorem cL_text (hl : e.length = 164) {pv d : V} {n : Nat} {x : Dom} {b : Bool} (h1 : e.getD 1 V.undef = pv) (h2 : e.getD 2 V.undef = d) (hn : lenK false pv = some n) (h : n ≤ 100) (hd : lenV true d = some (.abs .i64 x)) (hx : absE .gtr .i64 x 16 = some (.bool b)) :
    Does X cL e H fun e1 => Same18 e1 e ∧ e1.getD 25 V.undef = .bool b := by
  have k2 := get_of hl (by decide) h2
  have hlv : lenV false pv = some (.int .i64 (n : Int)) := by unfold lenV; rw [hn]
  have hlt : decide ((n : Int) > 100) = false := decide_eq_false (by omega)
  refine .go pv (ev_move h1) (.go (.int .i64 (n : Int)) ?_ (.go (.bool false) ?_ (.go (.bool false) (ev_move ?_) (.yes d ?_ (ev_move ?_) (.yes (.abs .i64 x) ?_ ?_ (.yes (.bool b) ?_ ?_ (.go (.bool b) ?_ (.nil ⟨?same, ?_⟩))))))))
  case same => repeat' (first | exact Same18.refl hl | refine Same18.set ?_ (by decide))
  all_goals simp [hl, k2, evalOp, Opd.ev, hlv, hd, hx, binE, arithE, pure1, hlt]

/-- One number more, in its slot. -/
theorem inc_run (hl : e.length = 164) {s p q n : Nat} (hs : s < 41) (hp : 41 ≤ p) (hp2 : p < 164) (hq : 41 ≤ q) (hq2 : q < 164) (hn : n < 99999) (h : e.getD s V.undef = .int .i64 (n : Int)) :
    Does X [⟨some p, .move (.t s), none⟩, ⟨some q, .bin .add (.t p) (.c (.int .i64 1)), none⟩, ⟨some s, .move (.t q), none⟩] e H fun e1 => e1.length = 164 ∧ (∀ t, t < 41 → t ≠ s → e1.getD t V.undef = e.getD t V.undef) ∧ e1.getD s V.undef = .int .i64 ((n + 1 : Nat) : Int) := by
  have hw : IntKind.i64.wrap ((n : Int) + 1) = ((n + 1 : Nat) : Int) := by
    have := wrap_nat (n := n + 1) (by omega)
    rw [← this]
    congr 1
  refine .go (.int .i64 (n : Int)) (ev_move h) (.go (.int .i64 ((n + 1 : Nat) : Int)) ?_ (.go (.int .i64 ((n + 1 : Nat) : Int)) (ev_move ?_) (.nil ⟨?_, fun t ht hts => ?_, ?_⟩)))
  · simp only [evalOp, Opd.ev]
    rw [set_getD, if_pos ⟨rfl, by omega⟩]
    simp only [binE, arithE, pure1, reduceCtorEq, or_self, if_false, if_true, Option.map_some, hw]
  · rw [set_getD, if_pos ⟨rfl, by rw [List.length_set]; omega⟩]
  · simp [hl]
  · rw [set_getD, if_neg (fun c => hts c.1), set_getD, if_neg (fun c => by omega), set_getD, if_neg (fun c => by omega)]
  · rw [set_getD, if_pos ⟨rfl, by rw [List.length_set, List.length_set]; omega⟩]

end
end Go.PE
