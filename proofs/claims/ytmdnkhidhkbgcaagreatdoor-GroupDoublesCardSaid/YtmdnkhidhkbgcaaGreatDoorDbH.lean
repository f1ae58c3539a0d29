/- GroupDoubles: the pieces of its loops, by hand. -/
import Derived.Test.YtmdnkhidhkbgcaaGreatDoorDbF
import Derived.Test.YtmdnkhidhkbgcaaGreatDoorEF
import Derived.KernelRfl
namespace Go.PE
open Go.Proofs Go.RowKit
set_option maxRecDepth 100000
def c37 : List EOper := [o 37 (.move (.t 11)), o 38 (.move (.t 10)), o 39 (.bin .leq (.t 37) (.t 38))]
def c42 : List EOper := [o 42 (.move (.t 11)), o 43 (.bin .gtr (.t 42) (.c (.int .u32 0)))]
def dA : List (EOper × DK) := [(o 44 (.move (.t 7)), .N), (o 45 (.move (.t 7)), .N), (o 46 (.nilc (.t 45)), .N), (o 47 (.fieldAddr 1 (.t 46)), .N), (o 48 (.load false 1 (.t 47)), .R 0 0), (o 49 (.move (.t 11)), .N), (o 50 (.move (.t 11)), .N), (o 51 (.conv .u8 (.t 50)), .N), (o 52 (.buildSl 1 [(.int .u8 0)] 1 [(0, 1, (.t 51))]), .N), (o 53 (.toStr (.t 52)), .R 0 0), (o 54 (.call 27 [(.t 48), (.t 49), (.t 53)]), .W), (o 55 (.call 26 [(.t 44), (.t 54)]), .W)]
def c65 : List EOper := [o 56 (.move (.t 12)), o 57 (.bin .lss (.t 56) (.c (.int .i64 600))), o 58 (.move (.t 57)), g 59 (.move (.t 7)) 58 true, g 60 (.nilc (.t 59)) 58 true, g 61 (.fieldAddr 7 (.t 60)) 58 true, g 62 (.load false 1 (.t 61)) 58 true, g 63 (.len false (.t 62)) 58 true, g 64 (.bin .gtr (.t 63) (.c (.int .i64 0))) 58 true, o 65 (.pick (.t 58) (.t 64) (.c (.bool false)))]
def oA : List EOper := [o 68 (.move (.t 8)), o 69 (.move (.t 7)), o 70 (.nilc (.t 69)), o 71 (.fieldAddr 7 (.t 70)), o 72 (.load false 1 (.t 71)), o 73 (.indexAddrSl 131 (.t 72) (.c (.int .i64 0))), o 74 (.load true 131 (.t 73)), o 75 (.buildSl 131 zM 1 [(0, 131, (.t 74))]), o 76 (.append 131 1400 (.t 68) (.t 75)), o 8 (.move (.t 76))]
def oT : List EOper := [o 77 (.move (.t 7)), o 78 (.call 28 [(.t 77), (.c (.int .i64 0))])]
def c82 : List EOper := [o 79 (.move (.t 9)), o 80 (.move (.t 2)), o 81 (.len false (.t 80)), o 82 (.bin .lss (.t 79) (.t 81))]
def oD : List EOper := [o 83 (.move (.t 8)), o 84 (.move (.t 2)), o 85 (.move (.t 9)), o 86 (.indexAddrSl 1 (.t 84) (.t 85)), o 87 (.load false 1 (.t 86)), o 88 (.conv .i64 (.t 87)), o 89 (.move (.t 8)), o 90 (.len false (.t 89)), o 91 (.bin .rem (.t 88) (.t 90)), o 92 (.indexAddrSl 131 (.t 83) (.t 91)), o 93 (.load true 131 (.t 92)), o 13 (.new zM), o' (.store 131 (.t 13) (.t 93))]
def i9 : List EOper := [o 94 (.move (.t 9)), o 95 (.bin .add (.t 94) (.c (.int .i64 1))), o 9 (.move (.t 95))]
def c98 : List EOper := [o 96 (.fieldAddr 2 (.t 13)), o 97 (.load false 1 (.t 96)), o 98 (.bin .lss (.t 97) (.c (.int .u8 20)))]
def dE : List (EOper × DK) := [(o 99 (.move (.t 7)), .N), (o 100 (.move (.t 7)), .N), (o 101 (.nilc (.t 100)), .N), (o 102 (.fieldAddr 7 (.t 101)), .N), (o 103 (.load false 1 (.t 102)), .R 0 1), (o 104 (.move (.t 7)), .N), (o 105 (.fieldAddr 2 (.t 13)), .N), (o 106 (.load false 1 (.t 105)), .R 0 0), (o 107 (.bin .sub (.t 106) (.c (.int .u8 10))), .N), (o 108 (.nilc (.t 104)), .N), (o 109 (.fieldAddr 2 (.t 108)), .N), (o 110 (.indexAddrArr 5 1 (.t 109) (.t 107)), .N), (o 111 (.load false 1 (.t 110)), .R 0 0), (o 112 (.move (.t 7)), .N), (o 113 (.nilc (.t 112)), .N), (o 114 (.fieldAddr 0 (.t 113)), .N), (o 115 (.load false 1 (.t 114)), .R 0 0), (o 116 (.load true 131 (.t 13)), .R 0 0), (o 117 (.call 13 [(.t 111), (.t 115), (.t 116)]), .W), (o 118 (.append 131 1400 (.t 103) (.t 117)), .W), (o 119 (.nilc (.t 99)), .N), (o 120 (.fieldAddr 7 (.t 119)), .N), (o' (.store 1 (.t 120) (.t 118)), .W)]
def i12 : List EOper := [o 66 (.move (.t 12)), o 67 (.bin .add (.t 66) (.c (.int .i64 1))), o 12 (.move (.t 67))]
def c121 : List EOper := [o 121 (.move (.t 7)), o 122 (.nilc (.t 121)), o 123 (.fieldAddr 7 (.t 122)), o 124 (.load false 1 (.t 123)), o 125 (.len false (.t 124)), o 126 (.bin .gtr (.t 125) (.c (.int .i64 0)))]
def i11 : List EOper := [o 40 (.move (.t 11)), o 41 (.bin .add (.t 40) (.c (.int .u32 1))), o 11 (.move (.t 41))]
def cL : List EOper := [o 21 (.move (.t 2)), o 22 (.len false (.t 21)), o 23 (.bin .gtr (.t 22) (.c (.int .i64 100)))]
def dbD : ECode := .seq (.ops oD) (.seq (.ops i9) (.seq (.ops c98) (.cond (.t 98) (.draw dE) .skip)))
def dbI : ECode := .seq (.seq (.ops c65) (.cond (.t 65) .skip (.exit 2))) (.seq (.block 3 (.seq (.ops oA) (.seq (.ops oT) (.seq (.ops c82) (.cond (.t 82) dbD .skip))))) (.ops i12))
def dbK : ECode := .seq (.ops c42) (.cond (.t 43) (.draw dA) .skip)
def dbC : ECode := .seq (.ops c121) (.cond (.t 126) (.seq (.ops [o 6 (.move (.c (.bool false)))]) .ret) .skip)
def dbO : ECode := .seq (.seq (.ops c37) (.cond (.t 39) .skip (.exit 0))) (.seq (.block 1 (.seq dbK (.seq (.seq (.ops [o 12 (.move (.c (.int .i64 0)))]) (.block 2 (.loop dbI))) dbC))) (.ops i11))
def spineAt : Nat → ECode → ECode
  | 0, .seq a _ => a
  | n + 1, .seq _ b => spineAt n b
  | _, c => c
def restAt : Nat → ECode → ECode
  | 0, c => c
  | n + 1, .seq _ b => restAt n b
  | _ + 1, c => c
def dbP : List ECode := [spineAt 0 lit5.body, spineAt 1 lit5.body]
def dbL : ECode := .seq (.ops cL) (.cond (.t 23) (.seq (.ops [o 6 (.move (.c (.bool true)))]) .ret) .skip)
def dbQ : List ECode := [spineAt 3 lit5.body, spineAt 4 lit5.body, spineAt 5 lit5.body, spineAt 6 lit5.body]
def dbN : List ECode := [spineAt 7 lit5.body]
def dbE : ECode := restAt 9 lit5.body
theorem db_body : lit5.body = app dbP (.seq dbL (app dbQ (app dbN (.seq (.seq (.ops [o 11 (.move (.c (.int .u32 0)))]) (.block 0 (.loop dbO))) dbE)))) := by kernel_rfl
theorem db_take : stripF lit28 = ⟨2, 65, [], takeCode 13 zM⟩ := by kernel_rfl
def SameX (k : Nat) (e1 e : Env) : Prop := e1.length = 178 ∧ ∀ t, t < 14 → t ≠ k → e1.getD t V.undef = e.getD t V.undef
section
variable {X : Ctx} {e : Env} {H : Heap} {k : Nat}
theorem SameX.refl (hl : e.length = 178) : SameX k e e := ⟨hl, fun _ _ _ => rfl⟩
theorem SameX.set {e1 : Env} (h : SameX k e1 e) {d : Nat} (hd : 14 ≤ d ∨ d = k) {v : V} : SameX k (e1.set d v) e :=
  ⟨by rw [List.length_set]; exact h.1, fun t ht hk => by rw [getD_put_ne (by omega)]; exact h.2 t ht hk⟩
theorem SameX.weak {e1 : Env} (h : SameX 177 e1 e) : SameX k e1 e := ⟨h.1, fun t ht _ => h.2 t ht (by omega)⟩
theorem Runs.yes {os : List EOper} {Q : Env → Heap → Prop} {d t : Nat} {op : EOp} {b : Bool} (v : V) (H' : Heap) (hg : e.getD t V.undef = .bool b) (h : evalOp X e H op = some (v, H')) (k : Runs X os (e.put (some d) v) H' Q) : Runs X (⟨some d, op, some (t, b)⟩ :: os) e H Q := by
  obtain ⟨e1, H1, h1, h2⟩ := k
  exact ⟨e1, H1, by simp only [evalOps, evalOper, EOper.wanted, hg, beq_self_eq_true, if_true, h, Option.map_some, Option.bind_some]; exact h1, h2⟩
theorem wrap_i {n : Nat} (h : n < 100000) : IntKind.i64.wrap (n : Int) = (n : Int) := wrap_small (by omega) (by omega)
theorem c65_run (hl : e.length = 178) {j m : Nat} (hj : j < 600) (h12 : e.getD 12 V.undef = iN j) (h7 : e.getD 7 V.undef = .ptr 22 0 0 9) {bv : V} (hb : loadE false 1 (.ptr 22 0 7 2) H = some bv) (hm : lenK false bv = some m) :
    Runs X c65 e H fun e1 H1 => H1 = H ∧ SameX 177 e1 e ∧ e1.getD 65 V.undef = .bool (decide (0 < m)) := by
  have hlv : lenV false bv = some (iN m) := by unfold lenV; rw [hm]; rfl
  have hlt : binE .lss (iN j) (.int .i64 600) = some (.bool true) := by
    have : decide (Int.ofNat j < 600) = true := decide_eq_true (by show (j : Int) < 600; omega)
    simp [binE, iN, arithE]
    omega
  have hgt : binE .gtr (iN m) (.int .i64 0) = some (.bool (decide (0 < m))) := by
    simp [binE, iN, arithE]
  refine .go (iN j) H ?_ (.go (.bool true) H ?_ (.go (.bool true) H ?_ (.yes (.ptr 22 0 0 9) H ?_ ?_ (.yes (.ptr 22 0 0 9) H ?_ ?_ (.yes (.ptr 22 0 7 2) H ?_ ?_ (.yes bv H ?_ ?_ (.yes (iN m) H ?_ ?_ (.yes (.bool (decide (0 < m))) H ?_ ?_ (.go (.bool (decide (0 < m))) H ?_ (.nil ⟨rfl, ?same, ?_⟩))))))))))
  case same => repeat' (first | refine SameX.set ?_ (.inl (by decide)) | exact SameX.refl hl)
  all_goals simp only [Env.put, evalOp, Opd.ev, getD_put, getD_put_ne, hl, List.length_set, Nat.reduceLT, ne_eq, Nat.reduceEqDiff, not_false_eq_true, h12, h7, hlt, hgt, hlv, hb, fieldAddrE, Nat.reduceLeDiff, if_true, Nat.zero_add, Nat.reduceSub, pure1, Option.map_some]
theorem oA_run (hl : e.length = 178) {n : Nat} {wc x rest : List V} {av av' : V} {H' : Heap} (h7 : e.getD 7 V.undef = .ptr 22 0 0 9) (h8 : e.getD 8 V.undef = av) (hw : H[22]? = some (.cells wc 0 0)) (hw7 : wc[7]? = some (.slice 23 0 0 n 131 none)) (hn : 0 < n)
    (hb : H[23]? = some (.cells (x ++ rest) 0 0)) (hx : x.length = 131) (ho : x.all V.one = true) (happ : appendE 131 1400 av (.slice H.length 0 0 1 131 (some 1)) (H ++ [.cells x 0 0]) = some (av', H')) :
    Runs X oA e H fun e1 H1 => H1 = H' ∧ SameX 8 e1 e ∧ e1.getD 8 V.undef = av' := by
  have hld : loadE false 1 (.ptr 22 0 7 2) H = some (.slice 23 0 0 n 131 none) := load_one hw (Nat.zero_le _) hw7 (by decide)
  have hlx : loadE true 131 (.ptr 23 0 0 131) H = some (.agg x) := by
    rw [load_many hb (Nat.zero_le _) (by simp [hx]) (by decide), List.drop_zero, ← hx, List.take_left]
  have hix : indexAddrSlE 131 (.slice 23 0 0 n 131 none) (.int .i64 0) = some (.ptr 23 0 0 131) := by simp [indexAddrSlE, hn]
  have hd : zM.drop (0 + x.length) = [] := List.drop_eq_nil_of_le (by rw [hx]; decide)
  have hs : splice zM 0 x = x := by unfold splice; rw [hd]; simp
  have hz : zM.length = 131 := by decide
  have hfill : fillE (repeatL zM 1) [(0, 131, .agg x)] = some x := by
    simp [fillE, repeatL, V.cells, hx, hz, hs]
  refine .go av H ?_ (.go (.ptr 22 0 0 9) H ?_ (.go (.ptr 22 0 0 9) H ?_ (.go (.ptr 22 0 7 2) H ?_ (.go (.slice 23 0 0 n 131 none) H ?_ (.go (.ptr 23 0 0 131) H ?_ (.go (.agg x) H ?_ (.go (.slice H.length 0 0 1 131 (some 1)) (H ++ [.cells x 0 0]) ?_
    (.go av' H' ?_ (.go av' H' ?_ (.nil ⟨rfl, ?same, ?_⟩))))))))))
  case same => repeat' (first | refine SameX.set ?_ (.inl (by decide)) | refine SameX.set ?_ (.inr rfl) | exact SameX.refl hl)
  all_goals simp only [Env.put, evalOp, Opd.ev, getD_put, getD_put_ne, hl, List.length_set, Nat.reduceLT, ne_eq, Nat.reduceEqDiff, not_false_eq_true, h7, h8, fieldAddrE, Nat.reduceLeDiff, if_true, Nat.zero_add, Nat.reduceSub, pure1, hld, hlx, hix, happ, hfill, ho, List.map_cons, List.map_nil, Nat.succ_ne_self, if_false, Option.map_some]
theorem c82_run (hl : e.length = 178) {a n : Nat} {pv : V} (h9 : e.getD 9 V.undef = iN a) (h2 : e.getD 2 V.undef = pv) (hn : lenK false pv = some n) : Runs X c82 e H fun e1 H1 => H1 = H ∧ SameX 177 e1 e ∧ e1.getD 82 V.undef = .bool (decide (a < n)) := by
  have hlv : lenV false pv = some (iN n) := by unfold lenV; rw [hn]; rfl
  have hlt : binE .lss (iN a) (iN n) = some (.bool (decide (a < n))) := by simp [binE, iN, arithE]
  refine .go (iN a) H ?_ (.go pv H ?_ (.go (iN n) H ?_ (.go (.bool (decide (a < n))) H ?_ (.nil ⟨rfl, ?same, ?_⟩))))
  case same => repeat' (first | refine SameX.set ?_ (.inl (by decide)) | exact SameX.refl hl)
  all_goals simp only [Env.put, evalOp, Opd.ev, getD_put, getD_put_ne, hl, List.length_set, Nat.reduceLT, ne_eq, Nat.reduceEqDiff, not_false_eq_true, h9, h2, hlt, hlv, pure1, Option.map_some]
theorem oD_run (hl : e.length = 178) {a p n : Nat} {pv : V} {all x : List V} (h8 : e.getD 8 V.undef = .slice 24 0 0 n 131 none) (h9 : e.getD 9 V.undef = iN a) (h2 : e.getD 2 V.undef = pv) (hp : indexAddrSlE 1 pv (iN a) = some (.pptr [bN p])) (hp2 : p < 256) (hn : 0 < n)
    (hb : H[24]? = some (.cells all 0 0)) (hla : p % n * 131 + 131 ≤ all.length) (hx : (all.drop (p % n * 131)).take 131 = x) (ho : x.all V.one = true) :
    Runs X oD e H fun e1 H1 => H1 = H ++ [.cells x 0 0] ∧ SameX 13 e1 e ∧ e1.getD 13 V.undef = .ptr H.length 0 0 131 := by
  have hxl : x.length = 131 := by rw [← hx, List.length_take, List.length_drop]; omega
  have hlp : loadE false 1 (.pptr [bN p]) H = some (bN p) := rfl
  have hcv : IntKind.i64.wrap (Int.ofNat p) = (Int.ofNat p) := wrap_i (by omega)
  have hrem : binE .rem (iN p) (iN n) = some (iN (p % n)) := by
    have h0 : (n : Int) ≠ 0 := by omega
    have : Int.tmod (p : Int) (n : Int) = ((p % n : Nat) : Int) := by
      rw [Int.tmod_eq_emod_of_nonneg (by omega)]; omega
    simp [binE, iN, arithE, this]
    omega
  have hlv : lenV false (.slice 24 0 0 n 131 none) = some (iN n) := rfl
  have hm := Nat.mod_lt p hn
  have hix : indexAddrSlE 131 (.slice 24 0 0 n 131 none) (iN (p % n)) = some (.ptr 24 0 (p % n * 131) 131) := by
    have : ((p % n : Nat) : Int) < (n : Int) := by omega
    simp [indexAddrSlE, iN]
    omega
  have hlx : loadE true 131 (.ptr 24 0 (p % n * 131) 131) H = some (.agg x) := by rw [load_many hb (Nat.zero_le _) hla (by decide), hx]
  have hz : zM.length = 131 := by decide
  have hd : zM.drop (0 + x.length) = [] := List.drop_eq_nil_of_le (by rw [hxl]; decide)
  have hs : splice zM 0 x = x := by unfold splice; rw [hd]; simp
  have hzo : zM.all V.one = true := by decide
  have hst : storeE 131 (.ptr H.length 0 0 131) (.agg x) (H ++ [.cells zM 0 0]) = some (H ++ [.cells x 0 0]) := by
    simp [storeE, V.cells, hxl, writeCells, hz, ho, hs]
  refine .go (.slice 24 0 0 n 131 none) H ?_ (.go pv H ?_ (.go (iN a) H ?_ (.go (.pptr [bN p]) H ?_ (.go (bN p) H ?_ (.go (iN p) H ?_ (.go (.slice 24 0 0 n 131 none) H ?_ (.go (iN n) H ?_ (.go (iN (p % n)) H ?_ (.go (.ptr 24 0 (p % n * 131) 131) H ?_ (.go (.agg x) H ?_
    (.go (.ptr H.length 0 0 131) (H ++ [.cells zM 0 0]) ?_ (.go V.undef (H ++ [.cells x 0 0]) ?_ (.nil ⟨rfl, ?same, ?_⟩)))))))))))))
  case same => repeat' (first | refine SameX.set ?_ (.inl (by decide)) | refine SameX.set ?_ (.inr rfl) | exact SameX.refl hl)
  case refine_6 => simp only [Env.put, evalOp, Opd.ev, getD_put, hl, List.length_set, Nat.reduceLT, bN, iN, hcv]
  all_goals simp only [Env.put, evalOp, Opd.ev, getD_put, getD_put_ne, hl, List.length_set, Nat.reduceLT, ne_eq, Nat.reduceEqDiff, not_false_eq_true, h8, h9, h2, hp, hlp, hrem, hlv, hix, hlx, hst, newBox, hzo, hz, if_true, pure1, Option.map_some]
theorem c98_run (hl : e.length = 178) {b n : Nat} {x : List V} (h13 : e.getD 13 V.undef = .ptr b 0 0 131) (hb : H[b]? = some (.cells x 0 0)) (hx : x[2]? = some (bN n)) : Runs X c98 e H fun e1 H1 => H1 = H ∧ SameX 177 e1 e ∧ e1.getD 98 V.undef = .bool (decide (n < 20)) := by
  have hld : loadE false 1 (.ptr b 0 2 129) H = some (bN n) := load_one hb (Nat.zero_le _) hx (by decide)
  have hlt : binE .lss (bN n) (.int .u8 20) = some (.bool (decide (n < 20))) := by
    have : decide ((n : Int) < 20) = decide (n < 20) := decide_eq_decide.2 (by omega)
    simp [binE, bN, arithE, this]
  refine .go (.ptr b 0 2 129) H ?_ (.go (bN n) H ?_ (.go (.bool (decide (n < 20))) H ?_ (.nil ⟨rfl, ?same, ?_⟩)))
  case same => repeat' (first | refine SameX.set ?_ (.inl (by decide)) | exact SameX.refl hl)
  all_goals simp only [Env.put, evalOp, Opd.ev, getD_put, hl, List.length_set, Nat.reduceLT, h13, fieldAddrE, Nat.reduceLeDiff, if_true, Nat.zero_add, Nat.reduceSub, pure1, hld, hlt, Option.map_some]
theorem dE_run (hl : e.length = 178) {H1 H2 : Heap} {b n : Nat} {x wc : List V} {bv bv' q hp av : V} (h7 : e.getD 7 V.undef = .ptr 22 0 0 9) (h13 : e.getD 13 V.undef = .ptr b 0 0 131) (hb : H[b]? = some (.cells x 0 0)) (hx : x.length = 131)
    (hn : x[2]? = some (bN n)) (hn1 : 10 ≤ n) (hn2 : n < 15) (hw : H[22]? = some (.cells wc 0 0)) (hwl : wc.length = 9) (hw7 : wc[7]? = some bv) (h0 : wc[0]? = some hp) (hq : wc[2 + (n - 10)]? = some q)
    (hstep : X 13 [q, hp, .agg x] H = some (av, H1)) (hw1 : H1[22]? = some (.cells wc 0 0)) (happ : appendE 131 1400 bv av H1 = some (bv', H2)) (hw2 : H2[22]? = some (.cells wc 0 0)) (hc : bv'.cells = [bv'] ∧ V.one bv' = true) :
    Draws X dE e H [] [] fun e1 H3 => H3 = H2.set 22 (.cells (wc.set 7 bv') 0 0) ∧ SameX 177 e1 e := by
  have hld : ∀ H : Heap, H[22]? = some (.cells wc 0 0) → loadE false 1 (.ptr 22 0 7 2) H = some bv := fun H hw => load_one hw (Nat.zero_le _) hw7 (by decide)
  have hld0 := hld H hw
  have hbv : V.beq bv bv = true := beq_all bv
  have hlq : loadE false 1 (.ptr 22 0 (2 + (n - 10)) 1) H = some q := load_one hw (Nat.zero_le _) hq (by decide)
  have hlh : loadE false 1 (.ptr 22 0 0 9) H = some hp := load_one hw (Nat.zero_le _) h0 (by decide)
  have hln : loadE false 1 (.ptr b 0 2 129) H = some (bN n) := load_one hb (Nat.zero_le _) hn (by decide)
  have hlx : loadE true 131 (.ptr b 0 0 131) H = some (.agg x) := by
    rw [load_many hb (Nat.zero_le _) (by omega) (by decide), List.drop_zero, ← hx, List.take_length]
  have hst : storeE 1 (.ptr 22 0 7 2) bv' H2 = some (H2.set 22 (.cells (wc.set 7 bv') 0 0)) := store_one hw2 (by omega) (by decide) hc.1 hc.2
  have hsub : binE .sub (bN n) (.int .u8 10) = some (bN (n - 10)) := by
    have h5 : n = 10 ∨ n = 11 ∨ n = 12 ∨ n = 13 ∨ n = 14 := by omega
    rcases h5 with h | h | h | h | h <;> rw [h] <;> rfl
  have hix : indexAddrArrE 5 1 (.ptr 22 0 2 7) (bN (n - 10)) = some (.ptr 22 0 (2 + (n - 10)) 1) := by
    have a1 : ((n - 10 : Nat) : Int) < 5 := by omega
    have a2 : n - 10 + 1 ≤ 7 := by omega
    simp only [indexAddrArrE, bN]
    rw [if_pos ⟨by exact Int.natCast_nonneg _, by exact a1⟩]
    simp only [Int.ofNat_eq_natCast, Int.toNat_natCast, Nat.mul_one]
    rw [if_pos a2]
  refine .n (.ptr 22 0 0 9) H ?_ (.n (.ptr 22 0 0 9) H ?_ (.n (.ptr 22 0 0 9) H ?_ (.n (.ptr 22 0 7 2) H ?_ (.r bv H (by decide) ?_ (.n (.ptr 22 0 0 9) H ?_ (.n (.ptr b 0 2 129) H ?_ (.r1 (bN n) H ?_ (.n (bN (n - 10)) H ?_ (.n (.ptr 22 0 0 9) H ?_
    (.n (.ptr 22 0 2 7) H ?_ (.n (.ptr 22 0 (2 + (n - 10)) 1) H ?_ (.r1 q H ?_ (.n (.ptr 22 0 0 9) H ?_ (.n (.ptr 22 0 0 9) H ?_ (.n (.ptr 22 0 0 9) H ?_ (.r1 hp H ?_ (.r1 (.agg x) H ?_ (.w av H1 ?_ (.w bv' H2 ?_ (.n (.ptr 22 0 0 9) H2 ?_ (.n (.ptr 22 0 7 2) H2 ?_
    (.w V.undef (H2.set 22 (.cells (wc.set 7 bv') 0 0)) ?_ (.nil (drawOk_cons (fun H0 h0 => ⟨H0, ?_⟩) hbv drawOk_nil) ⟨rfl, ?same⟩)))))))))))))))))))))))
  case same => repeat' (first | refine SameX.set ?_ (.inl (by decide)) | exact SameX.refl hl)
  case refine_24 =>
    simp only [List.drop_zero, List.nil_append, List.cons_append, List.take_succ_cons, List.take_zero, List.mem_cons, List.not_mem_nil, or_false, Nat.reduceAdd, Nat.reduceSub] at h0
    rcases h0 with rfl | rfl
    · simp only [Env.put, evalOp, Opd.ev, getD_put, hl, List.length_set, Nat.reduceLT, hld _ hw, pure1, Option.map_some]
    · simp only [Env.put, evalOp, Opd.ev, getD_put, hl, List.length_set, Nat.reduceLT, hld _ hw1, pure1, Option.map_some]
  all_goals simp only [Env.put, evalOp, Opd.ev, getD_put, getD_put_ne, hl, List.length_set, Nat.reduceLT, ne_eq, Nat.reduceEqDiff, not_false_eq_true, h7, h13, fieldAddrE, Nat.reduceLeDiff, if_true, Nat.zero_add, Nat.reduceSub, pure1, hld0, hlq, hlh, hln, hlx, hst, hsub, hix, happ, hstep, List.map_cons, List.map_nil, Option.map_some]
theorem c121_run (hl : e.length = 178) {m : Nat} (h7 : e.getD 7 V.undef = .ptr 22 0 0 9) {bv : V} (hb : loadE false 1 (.ptr 22 0 7 2) H = some bv) (hm : lenK false bv = some m) : Runs X c121 e H fun e1 H1 => H1 = H ∧ SameX 177 e1 e ∧ e1.getD 126 V.undef = .bool (decide (0 < m)) := by
  have hlv : lenV false bv = some (iN m) := by unfold lenV; rw [hm]; rfl
  have hgt : binE .gtr (iN m) (.int .i64 0) = some (.bool (decide (0 < m))) := by simp [binE, iN, arithE]
  refine .go (.ptr 22 0 0 9) H ?_ (.go (.ptr 22 0 0 9) H ?_ (.go (.ptr 22 0 7 2) H ?_ (.go bv H ?_ (.go (iN m) H ?_ (.go (.bool (decide (0 < m))) H ?_ (.nil ⟨rfl, ?same, ?_⟩))))))
  case same => repeat' (first | refine SameX.set ?_ (.inl (by decide)) | exact SameX.refl hl)
  all_goals simp only [Env.put, evalOp, Opd.ev, getD_put, hl, List.length_set, Nat.reduceLT, h7, hgt, hlv, hb, fieldAddrE, Nat.reduceLeDiff, if_true, Nat.zero_add, Nat.reduceSub, pure1, Option.map_some]
theorem c37_run (hl : e.length = 178) {i k : Nat} (h11 : e.getD 11 V.undef = wN i) (h10 : e.getD 10 V.undef = wN k) : Runs X c37 e H fun e1 H1 => H1 = H ∧ SameX 177 e1 e ∧ e1.getD 39 V.undef = .bool (decide (i ≤ k)) := by
  have hlt : binE .leq (wN i) (wN k) = some (.bool (decide (i ≤ k))) := by simp [binE, wN, arithE]
  refine .go (wN i) H ?_ (.go (wN k) H ?_ (.go (.bool (decide (i ≤ k))) H ?_ (.nil ⟨rfl, ?same, ?_⟩)))
  case same => repeat' (first | refine SameX.set ?_ (.inl (by decide)) | exact SameX.refl hl)
  all_goals simp only [Env.put, evalOp, Opd.ev, getD_put, getD_put_ne, hl, List.length_set, Nat.reduceLT, ne_eq, Nat.reduceEqDiff, not_false_eq_true, h10, h11, hlt, pure1, Option.map_some]
theorem c42_run (hl : e.length = 178) (h11 : e.getD 11 V.undef = wN 0) : Runs X c42 e H fun e1 H1 => H1 = H ∧ SameX 177 e1 e ∧ e1.getD 43 V.undef = .bool false := by
  refine .go (wN 0) H ?_ (.go (.bool false) H ?_ (.nil ⟨rfl, ?same, ?_⟩))
  case same => repeat' (first | refine SameX.set ?_ (.inl (by decide)) | exact SameX.refl hl)
  all_goals simp only [Env.put, evalOp, Opd.ev, getD_put, hl, List.length_set, Nat.reduceLT, h11, pure1]
  rfl
theorem cL_run (hl : e.length = 178) {pv : V} {n : Nat} (h2 : e.getD 2 V.undef = pv) (hn : lenK false pv = some n) : Runs X cL e H fun e1 H1 => H1 = H ∧ SameX 177 e1 e ∧ e1.getD 23 V.undef = .bool (decide (100 < n)) := by
  have hlv : lenV false pv = some (iN n) := by unfold lenV; rw [hn]; rfl
  have hgt : binE .gtr (iN n) (.int .i64 100) = some (.bool (decide (100 < n))) := by
    have : decide ((100 : Int) < (n : Int)) = decide (100 < n) := decide_eq_decide.2 (by omega)
    simp [binE, iN, arithE, this]
  refine .go pv H ?_ (.go (iN n) H ?_ (.go (.bool (decide (100 < n))) H ?_ (.nil ⟨rfl, ?same, ?_⟩)))
  case same => repeat' (first | refine SameX.set ?_ (.inl (by decide)) | exact SameX.refl hl)
  all_goals simp only [Env.put, evalOp, Opd.ev, getD_put, hl, List.length_set, Nat.reduceLT, h2, hgt, hlv, pure1, Option.map_some]
theorem incI_run (hl : e.length = 178) {s p q n : Nat} (hs : s < 14) (hp : 14 ≤ p) (hp2 : p < 178) (hq : 14 ≤ q) (hq2 : q < 178) (hn : n < 99999) (h : e.getD s V.undef = iN n) :
    Runs X [o p (.move (.t s)), o q (.bin .add (.t p) (.c (.int .i64 1))), o s (.move (.t q))] e H fun e1 H1 => H1 = H ∧ SameX s e1 e ∧ e1.getD s V.undef = iN (n + 1) := by
  have hadd : binE .add (iN n) (.int .i64 1) = some (iN (n + 1)) := by
    have := wrap_i (n := n + 1) (by omega)
    simp only [binE, iN, arithE, reduceCtorEq, or_self, if_false, if_true, Int.ofNat_eq_natCast]
    rw [show (n : Int) + 1 = ((n + 1 : Nat) : Int) by omega, this]
  refine .go (iN n) H ?_ (.go (iN (n + 1)) H ?_ (.go (iN (n + 1)) H ?_ (.nil ⟨rfl, ?same, ?_⟩)))
  case same => exact ((((SameX.refl hl).set (.inl hp)).set (.inl hq)).set (.inr rfl))
  · simp only [evalOp, Opd.ev, h]
  · simp only [Env.put, evalOp, Opd.ev]
    rw [getD_put (by omega)]
    simp only [hadd, pure1, Option.map_some]
  · simp only [Env.put, evalOp, Opd.ev]
    rw [getD_put (by rw [List.length_set]; omega)]
  · simp only [Env.put]
    rw [getD_put (by rw [List.length_set, List.length_set]; omega)]
theorem incW_run (hl : e.length = 178) {n : Nat} (hn : n < 99999) (h : e.getD 11 V.undef = wN n) : Runs X i11 e H fun e1 H1 => H1 = H ∧ SameX 11 e1 e ∧ e1.getD 11 V.undef = wN (n + 1) := by
  have hadd : binE .add (wN n) (.int .u32 1) = some (wN (n + 1)) := by
    have : IntKind.u32.wrap ((n + 1 : Nat) : Int) = ((n + 1 : Nat) : Int) := IntWalk.u32_in _ (by omega)
    simp only [binE, wN, arithE, reduceCtorEq, or_self, if_false, if_true, Int.ofNat_eq_natCast]
    rw [show (n : Int) + 1 = ((n + 1 : Nat) : Int) by omega, this]
  refine .go (wN n) H ?_ (.go (wN (n + 1)) H ?_ (.go (wN (n + 1)) H ?_ (.nil ⟨rfl, ?same, ?_⟩)))
  case same => exact ((((SameX.refl hl).set (.inl (by decide))).set (.inl (by decide))).set (.inr rfl))
  all_goals simp only [Env.put, evalOp, Opd.ev, getD_put, hl, List.length_set, Nat.reduceLT, h, hadd, pure1, Option.map_some]
end
end Go.PE
