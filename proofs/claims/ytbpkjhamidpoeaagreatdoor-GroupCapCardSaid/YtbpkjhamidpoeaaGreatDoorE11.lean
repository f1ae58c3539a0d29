/- The operations that only compute: places, parts, and one law for all of them. Nothing of a program stands here. -/
import Derived.Test.YtbpkjhamidpoeaaGreatDoorE10
namespace Go.PE

section
variable {P : Program} {R : Ren}

theorem fieldAddr_ok {off : Nat} {x : V} {x' : Value} (hx : VR R x x') {v : V} (h : fieldAddrE off x = some v) {s : TypeId} {fs : Array Field} {i n : Nat} {f : Field}
    (hu : P.underlying s = some (.struct fs)) (hf : fs[i]? = some f) (hn : sizeT P f.type = some n) (h0 : 0 < n) (ho : f.offset = off) :
    ∃ v', (∀ w, (Instr.fieldAt s x' i).run P w = .ok v' w) ∧ VR R v v' := by
  have hrun : ∀ a w, (Instr.fieldAt s (.pointer (some a)) i).run P w = .ok (.pointer (some (a.add off))) w := by
    intro a w
    have : ¬ n = 0 := by omega
    simp [Instr.fieldAt, run_underlying hu, hf, Instr.sureAddr, fieldPlace, run_sizeT hn, this, ho]
  cases hx <;> simp only [fieldAddrE, Option.some.injEq, reduceCtorEq] at h
  · rename_i b v0 o ext L a1 a2 a3
    split at h
    · simp only [Option.some.injEq] at h; subst h
      refine ⟨_, hrun _, ?_⟩
      rw [addr_add, show o - L.lo + off = o + off - L.lo by omega]
      exact .ptr a1 (by omega) (by omega)
    · simp at h
  · rename_i l r o a1
    subst h
    refine ⟨_, hrun _, ?_⟩
    rw [addr_add]
    refine .pptr fun j y hj => ?_
    rw [List.getElem?_drop] at hj
    have := a1 _ _ hj
    rw [Nat.add_assoc]; exact this

theorem indexArr_ok {len es : Nat} {x i : V} {x' i' : Value} (hx : VR R x x') (hi : VR R i i') {v : V} (h : indexAddrArrE len es x i = some v) {t el : TypeId}
    (hu : P.underlying t = some (.array len el)) (hn : sizeT P el = some es) :
    ∃ v', (∀ w, (Instr.indexAt t x' i').run P w = .ok v' w) ∧ VR R v v' := by
  cases hi <;> simp only [indexAddrArrE, reduceCtorEq] at h
  rename_i k i
  split at h
  · rename_i hr
    have hrun : ∀ a w, (Instr.indexAt t (.pointer (some a)) (.int k i)).run P w = .ok (.pointer (some (a.add (i.toNat * es)))) w := by
      intro a w
      have hr' := hr
      simp [Instr.indexAt, asIntOf, run_underlying hu, Instr.sureAddr, hr', run_sizeT hn]
    cases hx <;> simp only [Option.some.injEq, reduceCtorEq] at h
    · rename_i b v0 o ext L a1 a2 a3
      split at h
      · simp only [Option.some.injEq] at h; subst h
        refine ⟨_, hrun _, ?_⟩
        rw [addr_add, show o - L.lo + i.toNat * es = o + i.toNat * es - L.lo by omega]
        exact .ptr a1 (by omega) (by omega)
      · simp at h
    · rename_i l r o a1
      subst h
      refine ⟨_, hrun _, ?_⟩
      rw [addr_add]
      refine .pptr fun j y hj => ?_
      have hjl : j < es := by
        have := (List.getElem?_eq_some_iff.1 hj).1
        simp at this; omega
      rw [List.getElem?_take, if_pos hjl, List.getElem?_drop] at hj
      have := a1 _ _ hj
      rw [Nat.add_assoc]; exact this
  · simp at h

theorem indexSl_ok {es : Nat} {x i : V} {x' i' : Value} (hx : VR R x x') (hi : VR R i i') {v : V} (h : indexAddrSlE es x i = some v) {t el : TypeId}
    (hu : P.underlying t = some (.slice el)) (hn : sizeT P el = some es) :
    ∃ v', (∀ w, (Instr.indexAt t x' i').run P w = .ok v' w) ∧ VR R v v' := by
  cases hi <;> simp only [indexAddrSlE, reduceCtorEq] at h
  rename_i k i
  have hrun : ∀ (a : Addr) (len c : Nat), 0 ≤ i ∧ i < len → ∀ w, (Instr.indexAt t (.slice (some a) len c) (.int k i)).run P w = .ok (.pointer (some (a.add (i.toNat * es)))) w := by
    intro a len c hr w
    simp [Instr.indexAt, asIntOf, run_underlying hu, hr, run_sizeT hn]
  cases hx <;> simp only [reduceCtorEq] at h
  · rename_i b v0 o len es' c cap L a1 a2 a3 a4 a5 a6
    split at h
    · rename_i hc
      obtain ⟨h1, h2, rfl⟩ := hc
      simp only [Option.some.injEq] at h; subst h
      refine ⟨_, hrun _ _ _ ⟨h1, h2⟩, ?_⟩
      rw [addr_add, show o - L.lo + i.toNat * es = o + i.toNat * es - L.lo by omega]
      have : i.toNat * es + es ≤ len * es := by
        have : (i.toNat + 1) * es ≤ len * es := Nat.mul_le_mul_right _ (by omega)
        rw [Nat.add_mul, Nat.one_mul] at this; exact this
      exact .ptr a1 (by omega) (by omega)
    · simp at h
  · split at h
    · rename_i hc; omega
    · simp at h
  · rename_i n r o c l a1 a2
    split at h
    · rename_i hc
      simp only [Option.some.injEq] at h; subst h
      refine ⟨_, hrun _ _ _ hc, ?_⟩
      rw [addr_add]
      refine .pptr fun j y hj => ?_
      have hjl : j < es := by
        have := (List.getElem?_eq_some_iff.1 hj).1
        simp at this; omega
      rw [List.getElem?_take, if_pos hjl, List.getElem?_drop] at hj
      have := a1 _ _ hj
      rw [Nat.add_assoc]; exact this
    · simp at h

theorem index_ok {arr : Option (Nat × Nat × Bool)} {x i : V} {x' i' : Value} (hx : VR R x x') (hi : VR R i i') {v : V} (h : indexE arr x i = some v) {t : TypeId}
    (ht : (∃ len es g el, arr = some (len, es, g) ∧ P.underlying t = some (.array len el) ∧ shapeT P el = some (g, es)) ∨ (arr = none ∧ P.underlying t = some .string)) :
    ∃ v', (∀ w, (Instr.index t x' i').run P w = .ok v' w) ∧ VR R v v' := by
  cases hi <;> simp only [indexE, reduceCtorEq] at h
  rename_i k i
  rcases ht with ⟨len, es, g, el, rfl, hu, hs⟩ | ⟨rfl, hu⟩
  · cases hx <;> simp only [reduceCtorEq] at h
    rename_i l cs hl
    split at h
    · rename_i hc
      obtain ⟨v', h1, h2⟩ := run_part (P := P) hs hl hc.2.2 h
      refine ⟨v', fun w => ?_, h2⟩
      have hr : 0 ≤ i ∧ i < (len : Int) := ⟨hc.1, hc.2.1⟩
      simp [Instr.index, asIntOf, run_underlying hu, hr, run_sizeT (shapeT_ok hs).1, h1 w]
    · simp at h
  · cases hx <;> simp only [reduceCtorEq] at h
    rename_i s
    split at h
    · rename_i h0
      split at h
      · rename_i b hb
        simp only [Option.some.injEq] at h; subst h
        refine ⟨.int .u8 b.toNat, fun w => ?_, .int _ _⟩
        have hb' : s[i.toNat]? = some b := by
          have hlt : i.toNat < s.data.toList.length := (List.getElem?_eq_some_iff.1 hb).1
          have hlt' : i.toNat < s.size := by simpa using hlt
          rw [getElem?_pos s i.toNat hlt']
          have : s[i.toNat] = s.data.toList[i.toNat] := by
            rw [Array.getElem_toList]; rfl
          rw [this]
          rw [List.getElem?_eq_getElem hlt] at hb
          exact hb
        simp [Instr.index, asIntOf, run_underlying hu, h0, hb']
      · simp at h
    · simp at h

theorem minmax_ok {mx : Bool} {x y : V} {x' y' : Value} (hx : VR R x x') (hy : VR R y y') {v : V} (h : minE mx x y = some v) (ats : Array TypeId) (t : TypeId) :
    ∃ v', (∀ w, ((if mx then Builtin.max_ ats t #[x', y'] else Builtin.min_ ats t #[x', y']) : Sem Value).run P w = .ok v' w) ∧ VR R v v' := by
  cases hx <;> cases hy <;> simp only [minE, Option.some.injEq, reduceCtorEq] at h
  subst h
  cases mx
  · exact ⟨_, fun w => rfl, .int _ _⟩
  · exact ⟨_, fun w => rfl, .int _ _⟩

theorem call_builtin {b : Builtin} {args : Array Operand} {ats : Array TypeId} {dst : Option Tmp} {ty : TypeId} {pos : String} {after : Array Edge} {guard : Option (Nat × Bool)} (a : Act) (w : World) :
    (execOp a.eval ⟨dst, .call ⟨.builtin b, args, ats⟩, ty, pos, after, guard⟩).run P w =
      (builtin b ats ty (args.map fun | .const _ => true | _ => false) (args.map a.eval)).run P w := by
  simp [execOp, resolve, invoke]
  rfl

theorem builtin_ok {b : Builtin} {ats : Array TypeId} {args : Array Operand} {eo : EOp} (hc : cBuiltin P b ats args.toList = some eo) (hp : eo.isPure = true) {e : Env} {a : Act} (hE : VRL R e a.tmps.toList)
    {X : Ctx} {H H' : Heap} {v : V} (h : evalOp X e H eo = some (v, H')) (ty : TypeId) (cs : Array Bool) : H' = H ∧ PureRun P R (builtin b ats ty cs (args.map a.eval)) v := by
  have harr : ∀ {α : Type} {l : Array α} {m : List α}, l.toList = m → l = m.toArray := by
    intro α l m h; rw [← h]
  unfold cBuiltin at hc
  split at hc
  · rename_i t x ht hx
    have hats := harr ht
    have hargs := harr hx
    subst hats; subst hargs
    split at hc
    · rename_i hu
      rw [Option.map_eq_some_iff] at hc
      obtain ⟨y, hy, rfl⟩ := hc
      have rx := opd_ok hy hE
      simp only [evalOp, Option.map_eq_some_iff, Prod.mk.injEq] at h
      obtain ⟨n, hn, rfl, rfl⟩ := h
      refine ⟨rfl, goInt n, fun w => ?_, .int _ _⟩
      cases hxv : y.ev e <;> rw [hxv] at hn rx <;> simp only [lenK, Option.some.injEq, reduceCtorEq] at hn
      cases hcv : a.eval x <;> rw [hcv] at rx <;> cases rx
      subst hn
      simp [builtin, Builtin.len_, run_underlying hu, hcv]
    · rename_i el hu
      rw [Option.map_eq_some_iff] at hc
      obtain ⟨y, hy, rfl⟩ := hc
      have rx := opd_ok hy hE
      simp only [evalOp, Option.map_eq_some_iff, Prod.mk.injEq] at h
      obtain ⟨n, hn, rfl, rfl⟩ := h
      refine ⟨rfl, goInt n, fun w => ?_, .int _ _⟩
      have key : ∃ q c, a.eval x = .slice q n c := by
        cases hxv : y.ev e <;> rw [hxv] at hn rx <;> simp only [lenK, Option.some.injEq, reduceCtorEq] at hn <;> subst hn <;>
          cases hcv : a.eval x <;> rw [hcv] at rx <;> cases rx <;> exact ⟨_, _, rfl⟩
      obtain ⟨q, c, hq⟩ := key
      simp [builtin, Builtin.len_, run_underlying hu, hq]
    · rename_i n el hu
      simp only [Option.some.injEq] at hc; subst hc
      simp only [evalOp, Option.some.injEq, Prod.mk.injEq] at h
      obtain ⟨rfl, rfl⟩ := h
      exact ⟨rfl, goInt n, fun w => by simp [builtin, Builtin.len_, run_underlying hu], .int _ _⟩
    · rename_i q hu
      split at hc
      · rename_i n el hq
        simp only [Option.some.injEq] at hc; subst hc
        simp only [evalOp, Option.some.injEq, Prod.mk.injEq] at h
        obtain ⟨rfl, rfl⟩ := h
        exact ⟨rfl, goInt n, fun w => by simp [builtin, Builtin.len_, run_underlying hu, run_underlying hq], .int _ _⟩
      · simp at hc
    · simp at hc
  · split at hc
    · split at hc
      · simp at hc
      · split at hc
        · split at hc
          · simp only [Option.some.injEq] at hc; subst hc
            simp [EOp.isPure] at hp
          · simp at hc
        · simp at hc
    · simp at hc
  · split at hc
    · split at hc
      · split at hc
        · simp only [Option.some.injEq] at hc; subst hc
          simp [EOp.isPure] at hp
        · simp at hc
      · simp at hc
    · simp at hc
  · split at hc
    · split at hc
      · split at hc
        · simp only [Option.some.injEq] at hc; subst hc
          simp [EOp.isPure] at hp
        · simp at hc
      · simp at hc
    · simp at hc
  · rename_i x y hx
    have hargs := harr hx
    subst hargs
    split at hc
    · rename_i x1 y1 hx1 hy1
      simp only [Option.some.injEq] at hc; subst hc
      simp only [evalOp] at h
      obtain ⟨h1, rfl⟩ := pure1_ok h
      obtain ⟨v', h2, h3⟩ := minmax_ok (P := P) (opd_ok hx1 hE) (opd_ok hy1 hE) h1 ats ty
      exact ⟨rfl, v', fun w => by have h4 := h2 w; simp at h4; simp [builtin, h4], h3⟩
    · simp at hc
  · rename_i x y hx
    have hargs := harr hx
    subst hargs
    split at hc
    · rename_i x1 y1 hx1 hy1
      simp only [Option.some.injEq] at hc; subst hc
      simp only [evalOp] at h
      obtain ⟨h1, rfl⟩ := pure1_ok h
      obtain ⟨v', h2, h3⟩ := minmax_ok (P := P) (opd_ok hx1 hE) (opd_ok hy1 hE) h1 ats ty
      exact ⟨rfl, v', fun w => by have h4 := h2 w; simp at h4; simp [builtin, h4], h3⟩
    · simp at hc
  · simp at hc

/-- THE LAW of the operations that only compute. -/
theorem pure_ok {o : Oper} {eo : EOp} (hc : cOp P o = some eo) (hp : eo.isPure = true) {e : Env} {a : Act} (hE : VRL R e a.tmps.toList) {X : Ctx} {H H' : Heap} {v : V}
    (h : evalOp X e H eo = some (v, H')) : H' = H ∧ PureRun P R (execOp a.eval o) v := by
  obtain ⟨dst, op, ty, pos, after, guard⟩ := o
  cases op with
  | move x | assign x =>
    simp only [cOp, Option.map_eq_some_iff] at hc
    obtain ⟨y, hy, rfl⟩ := hc
    obtain ⟨rfl, hv⟩ := mv_ok hy hE h
    exact ⟨rfl, a.eval x, fun w => rfl, hv⟩
  | pick c x y =>
    simp only [cOp, Option.bind_eq_bind, Option.bind_eq_some_iff, Option.some.injEq] at hc
    obtain ⟨c1, hc1, x1, hx1, y1, hy1, rfl⟩ := hc
    simp only [evalOp] at h
    have rc := opd_ok hc1 hE
    split at h
    · rename_i t ht
      rw [ht] at rc
      simp only [Option.some.injEq, Prod.mk.injEq] at h
      obtain ⟨rfl, rfl⟩ := h
      refine ⟨rfl, if t then a.eval x else a.eval y, fun w => ?_, ?_⟩
      · cases hcv : a.eval c <;> rw [hcv] at rc <;> cases rc
        simp [execOp, asBool, hcv]
      · cases t
        · exact opd_ok hy1 hE
        · exact opd_ok hx1 hE
    · simp at h
  | build t parts =>
    simp only [cOp] at hc
    split at hc
    · rename_i z fs hz hu
      split at hc
      · rename_i hall
        rw [Option.map_eq_some_iff] at hc
        obtain ⟨ps, hps, rfl⟩ := hc
        obtain ⟨rfl, v', h1, h2⟩ := build_ok hz (.inl ⟨fs, hu, hall, hps⟩) hE h
        exact ⟨rfl, PureRun.of h1 h2⟩
      · simp at hc
    · rename_i z len el hz hu
      split at hc
      · rename_i n hn
        rw [Option.map_eq_some_iff] at hc
        obtain ⟨ps, hps, rfl⟩ := hc
        obtain ⟨rfl, v', h1, h2⟩ := build_ok hz (.inr ⟨len, el, n, hu, hn, hps⟩) hE h
        exact ⟨rfl, PureRun.of h1 h2⟩
      · simp at hc
    · simp at hc
  | nilCheck x =>
    simp only [cOp, Option.map_eq_some_iff] at hc
    obtain ⟨y, hy, rfl⟩ := hc
    have rx := opd_ok hy hE
    simp only [evalOp] at h
    split at h
    · rename_i b v0 o n hxv
      rw [hxv] at rx
      simp only [Option.some.injEq, Prod.mk.injEq] at h
      obtain ⟨rfl, rfl⟩ := h
      refine ⟨rfl, a.eval x, fun w => ?_, rx⟩
      cases hcv : a.eval x <;> rw [hcv] at rx <;> cases rx
      simp [execOp, hcv]
    · rename_i l hxv
      rw [hxv] at rx
      simp only [Option.some.injEq, Prod.mk.injEq] at h
      obtain ⟨rfl, rfl⟩ := h
      refine ⟨rfl, a.eval x, fun w => ?_, rx⟩
      cases hcv : a.eval x <;> rw [hcv] at rx <;> cases rx
      simp [execOp, hcv]
    · rename_i f p q hxv
      rw [hxv] at rx
      simp only [Option.some.injEq, Prod.mk.injEq] at h
      obtain ⟨rfl, rfl⟩ := h
      refine ⟨rfl, a.eval x, fun w => ?_, rx⟩
      cases hcv : a.eval x <;> rw [hcv] at rx <;> cases rx
      simp [execOp, hcv]
    · simp at h
  | binOp op t x y yt =>
    simp only [cOp] at hc
    rcases eqlOp op with hop | hop
    · obtain ⟨rfl, v', h1, h2⟩ := eq_op_ok hop hc hE h
      exact ⟨rfl, PureRun.of h1 h2⟩
    · unfold cBin at hc
      split at hc
      · rename_i x1 y1 hx hy
        rw [if_neg (by simp [hop.1, hop.2])] at hc
        simp only [Option.some.injEq] at hc; subst hc
        simp only [evalOp] at h
        obtain ⟨h0, rfl⟩ := pure1_ok h
        obtain ⟨v', h1, h2⟩ := bin_ok (P := P) (t := t) (a := x) (b := y) (opd_ok hx hE) (opd_ok hy hE) hop h0
        exact ⟨rfl, PureRun.of h1 h2⟩
      · simp at hc
  | unOp op t x =>
    simp only [cOp, Option.map_eq_some_iff] at hc
    obtain ⟨y, hy, rfl⟩ := hc
    have rx := opd_ok hy hE
    simp only [evalOp] at h
    obtain ⟨h1, rfl⟩ := pure1_ok h
    refine ⟨rfl, ?_⟩
    unfold unE at h1
    split at h1
    · rename_i b hb
      rw [hb] at rx
      simp only [Option.some.injEq] at h1; subst h1
      cases hcv : a.eval x <;> rw [hcv] at rx <;> cases rx
      exact ⟨_, fun w => by simp [execOp, hcv, Op.unary], .bool _⟩
    · rename_i k n hb
      rw [hb] at rx
      simp only [Option.some.injEq] at h1; subst h1
      cases hcv : a.eval x <;> rw [hcv] at rx <;> cases rx
      exact ⟨_, fun w => by simp [execOp, hcv, Op.unary, Op.intArith], .int _ _⟩
    · simp at h1
  | convert src dt x =>
    simp only [cOp] at hc
    split at hc
    · rename_i k1 k hs hd
      rw [Option.map_eq_some_iff] at hc
      obtain ⟨y, hy, rfl⟩ := hc
      have rx := opd_ok hy hE
      simp only [evalOp] at h
      split at h
      · rename_i k0 n hb
        rw [hb] at rx
        simp only [Option.some.injEq, Prod.mk.injEq] at h
        obtain ⟨rfl, rfl⟩ := h
        cases hcv : a.eval x <;> rw [hcv] at rx <;> cases rx
        exact ⟨rfl, _, fun w => by simp [execOp, hcv, convert, run_underlying hs, run_underlying hd, Conv.intToInt], .int _ _⟩
      · simp at h
    · rename_i hs hd
      rw [Option.map_eq_some_iff] at hc
      obtain ⟨y, hy, rfl⟩ := hc
      have rx := opd_ok hy hE
      simp only [evalOp] at h
      split at h
      · rename_i s0 hb
        rw [hb] at rx
        simp only [Option.some.injEq, Prod.mk.injEq] at h
        obtain ⟨rfl, rfl⟩ := h
        cases hcv : a.eval x <;> rw [hcv] at rx <;> cases rx
        exact ⟨rfl, _, fun w => by simp [execOp, hcv, convert, run_underlying hs, run_underlying hd], .str _⟩
      · simp at h
    · split at hc
      · rw [Option.map_eq_some_iff] at hc
        obtain ⟨y, hy, rfl⟩ := hc
        simp [EOp.isPure] at hp
      · simp at hc
    · simp at hc
  | makeInterface t x =>
    simp only [cOp] at hc
    split at hc
    · simp at hc
    · rename_i d hu hni
      rw [Option.map_eq_some_iff] at hc
      obtain ⟨y, hy, rfl⟩ := hc
      have rx := opd_ok hy hE
      simp only [evalOp, Option.some.injEq, Prod.mk.injEq] at h
      obtain ⟨rfl, rfl⟩ := h
      refine ⟨rfl, .iface t (a.eval x), fun w => ?_, .iface rx⟩
      cases d <;> first
        | exact absurd rfl (hu _)
        | simp [execOp, Instr.makeInterface, run_underlying hni]
    · simp at hc
  | makeFunc fn first captured =>
    cases fn <;> simp only [cOp, reduceCtorEq] at hc
    split at hc
    · rename_i f _ _ p q hp1 hq1
      simp only [Option.some.injEq] at hc; subst hc
      simp only [evalOp, Option.some.injEq, Prod.mk.injEq] at h
      obtain ⟨rfl, rfl⟩ := h
      refine ⟨rfl, .func (.func f) (first.map a.eval) (captured.map a.eval), fun w => rfl, .fn ?_ ?_⟩
      · simpa using opds_ok hp1 hE
      · simpa using opds_ok hq1 hE
    · simp at hc
  | slice t x lo hi mx =>
    cases mx <;> simp only [cOp, reduceCtorEq] at hc
    split at hc
    · rename_i x1 lo1 hi1 hx hlo hhi
      have rx := opd_ok hx hE
      have rlo := optB_ok hlo hE
      have rhi := optB_ok hhi hE
      split at hc
      · rename_i hu
        simp only [Option.some.injEq] at hc; subst hc
        simp only [evalOp] at h
        obtain ⟨h1, rfl⟩ := pure1_ok h
        obtain ⟨v', h2, h3⟩ := subs_ok (P := P) (t := t) rx rlo rhi h1 hu
        exact ⟨rfl, PureRun.of h2 h3⟩
      · rename_i el hu
        split at hc
        · rename_i n hn
          split at hc
          · simp only [Option.some.injEq] at hc; subst hc
            simp only [evalOp] at h
            obtain ⟨h1, rfl⟩ := pure1_ok h
            obtain ⟨v', h2, h3⟩ := slice_ok (P := P) (t := t) rx rlo rhi h1 hu hn
            exact ⟨rfl, PureRun.of h2 h3⟩
          · simp at hc
        · simp at hc
      · rename_i len el hu
        split at hc
        · rename_i n hn
          split at hc
          · simp only [Option.some.injEq] at hc; subst hc
            simp only [evalOp] at h
            obtain ⟨h1, rfl⟩ := pure1_ok h
            obtain ⟨v', h2, h3⟩ := sliceArr_ok (P := P) (t := t) rx rlo rhi h1 (.inl ⟨el, hu, hn⟩)
            exact ⟨rfl, PureRun.of h2 h3⟩
          · simp at hc
        · simp at hc
      · rename_i q hu
        split at hc
        · rename_i len el hq
          split at hc
          · rename_i n hn
            split at hc
            · simp only [Option.some.injEq] at hc; subst hc
              simp only [evalOp] at h
              obtain ⟨h1, rfl⟩ := pure1_ok h
              obtain ⟨v', h2, h3⟩ := sliceArr_ok (P := P) (t := t) rx rlo rhi h1 (.inr ⟨q, el, hu, hq, hn⟩)
              exact ⟨rfl, PureRun.of h2 h3⟩
            · simp at hc
          · simp at hc
        · simp at hc
      · simp at hc
    · simp at hc
  | fieldAddr s x f =>
    simp only [cOp] at hc
    split at hc
    · rename_i fs hu
      split at hc
      · rename_i fd hf
        split at hc
        · rename_i n x1 hn hx
          split at hc
          · rename_i h0
            simp only [Option.some.injEq] at hc; subst hc
            simp only [evalOp] at h
            obtain ⟨h1, rfl⟩ := pure1_ok h
            obtain ⟨v', h2, h3⟩ := fieldAddr_ok (P := P) (opd_ok hx hE) h1 hu hf hn h0 rfl
            exact ⟨rfl, PureRun.of h2 h3⟩
          · simp at hc
        · simp at hc
      · simp at hc
    · simp at hc
  | field t x f =>
    simp only [cOp] at hc
    split at hc
    · rename_i fs hu
      split at hc
      · rename_i fd hf
        split at hc
        · rename_i g n x1 hs hx
          simp only [Option.some.injEq] at hc; subst hc
          simp only [evalOp] at h
          obtain ⟨h1, rfl⟩ := pure1_ok h
          have rx := opd_ok hx hE
          unfold fieldE at h1
          split at h1
          · rename_i cs hcs
            rw [hcs] at rx
            split at h1
            · rename_i hle
              cases hcv : a.eval x <;> rw [hcv] at rx <;> cases rx
              rename_i xs hxs
              obtain ⟨v', h2, h3⟩ := run_part (P := P) hs hxs hle h1
              exact ⟨rfl, v', fun w => by simp [execOp, Instr.field, run_underlying hu, hf, hcv, asAgg, h2 w], h3⟩
            · simp at h1
          · simp at h1
        · simp at hc
      · simp at hc
    · simp at hc
  | indexAddr t x i =>
    simp only [cOp] at hc
    split at hc
    · rename_i len el x1 i1 hu hx hi
      split at hc
      · rename_i n hn
        split at hc
        · simp only [Option.some.injEq] at hc; subst hc
          simp only [evalOp] at h
          obtain ⟨h1, rfl⟩ := pure1_ok h
          obtain ⟨v', h2, h3⟩ := indexArr_ok (P := P) (opd_ok hx hE) (opd_ok hi hE) h1 hu hn
          exact ⟨rfl, PureRun.of h2 h3⟩
        · simp at hc
      · simp at hc
    · rename_i el x1 i1 hu hx hi
      split at hc
      · rename_i n hn
        split at hc
        · simp only [Option.some.injEq] at hc; subst hc
          simp only [evalOp] at h
          obtain ⟨h1, rfl⟩ := pure1_ok h
          obtain ⟨v', h2, h3⟩ := indexSl_ok (P := P) (opd_ok hx hE) (opd_ok hi hE) h1 hu hn
          exact ⟨rfl, PureRun.of h2 h3⟩
        · simp at hc
      · simp at hc
    · simp at hc
  | index t x i =>
    simp only [cOp] at hc
    split at hc
    · rename_i len el x1 i1 hu hx hi
      split at hc
      · rename_i g n hs
        simp only [Option.some.injEq] at hc; subst hc
        simp only [evalOp] at h
        obtain ⟨h1, rfl⟩ := pure1_ok h
        obtain ⟨v', h2, h3⟩ := index_ok (P := P) (opd_ok hx hE) (opd_ok hi hE) h1 (.inl ⟨len, n, g, el, rfl, hu, hs⟩)
        exact ⟨rfl, PureRun.of h2 h3⟩
      · simp at hc
    · rename_i x1 i1 hu hx hi
      simp only [Option.some.injEq] at hc; subst hc
      simp only [evalOp] at h
      obtain ⟨h1, rfl⟩ := pure1_ok h
      obtain ⟨v', h2, h3⟩ := index_ok (P := P) (opd_ok hx hE) (opd_ok hi hE) h1 (.inr ⟨rfl, hu⟩)
      exact ⟨rfl, PureRun.of h2 h3⟩
    · simp at hc
  | extract x i =>
    simp only [cOp, Option.map_eq_some_iff] at hc
    obtain ⟨y, hy, rfl⟩ := hc
    have rx := opd_ok hy hE
    simp only [evalOp] at h
    split at h
    · rename_i l hl
      rw [hl] at rx
      obtain ⟨h1, rfl⟩ := pure1_ok h
      cases hcv : a.eval x <;> rw [hcv] at rx <;> cases rx
      rename_i xs hxs
      obtain ⟨v', h2, h3⟩ := hxs.get h1
      have h2' : xs[i]? = some v' := by simpa using h2
      exact ⟨rfl, v', fun w => by simp [execOp, Instr.extract, hcv, h2'], h3⟩
    · simp at h
  | call c =>
    obtain ⟨callee, args, ats⟩ := c
    simp only [cOp] at hc
    cases callee with
    | invoke r m => simp at hc
    | value f =>
      cases f <;> simp only at hc
      case func f =>
        rw [Option.map_eq_some_iff] at hc
        obtain ⟨y, hy, rfl⟩ := hc
        simp [EOp.isPure] at hp
      all_goals
        split at hc
        · simp only [Option.some.injEq] at hc; subst hc
          simp [EOp.isPure] at hp
        · simp at hc
    | builtin b =>
      simp only at hc
      obtain ⟨rfl, v', h1, h2⟩ := builtin_ok hc hp hE h ty (args.map fun | .const _ => true | _ => false)
      exact ⟨rfl, v', fun w => by rw [call_builtin, h1 w], h2⟩
  | alloc t =>
    simp only [cOp, Option.map_eq_some_iff] at hc
    obtain ⟨y, hy, rfl⟩ := hc
    simp [EOp.isPure] at hp
  | box t x =>
    simp only [cOp, Option.map_eq_some_iff] at hc
    obtain ⟨y, hy, rfl⟩ := hc
    simp [EOp.isPure] at hp
  | buildSlice t len parts =>
    simp only [cOp] at hc
    split at hc
    · split at hc
      · split at hc
        · rw [Option.map_eq_some_iff] at hc
          obtain ⟨y, hy, rfl⟩ := hc
          simp [EOp.isPure] at hp
        · simp at hc
      · simp at hc
    · simp at hc
  | load t x =>
    simp only [cOp] at hc
    split at hc
    · simp only [Option.some.injEq] at hc; subst hc
      simp [EOp.isPure] at hp
    · simp at hc
  | store t x y =>
    simp only [cOp] at hc
    split at hc
    · simp only [Option.some.injEq] at hc; subst hc
      simp [EOp.isPure] at hp
    · simp at hc
  | makeMap t r =>
    cases r <;> simp only [cOp, reduceCtorEq] at hc
    split at hc
    · split at hc
      · simp only [Option.some.injEq] at hc; subst hc
        simp [EOp.isPure] at hp
      · simp at hc
    · simp at hc
  | makeSlice t l c =>
    simp only [cOp] at hc
    split at hc
    · split at hc
      · split at hc
        · simp only [Option.some.injEq] at hc; subst hc
          simp [EOp.isPure] at hp
        · simp at hc
      · simp at hc
    · simp at hc
  | lookup t m k ok =>
    simp only [cOp] at hc
    split at hc
    · split at hc
      · simp only [Option.some.injEq] at hc; subst hc
        simp [EOp.isPure] at hp
      · simp at hc
    · simp at hc
  | mapUpdate t m k x =>
    simp only [cOp] at hc
    split at hc
    · split at hc
      · simp only [Option.some.injEq] at hc; subst hc
        simp [EOp.isPure] at hp
      · simp at hc
    · simp at hc
  | _ => simp only [cOp, reduceCtorEq] at hc

end
end Go.PE
