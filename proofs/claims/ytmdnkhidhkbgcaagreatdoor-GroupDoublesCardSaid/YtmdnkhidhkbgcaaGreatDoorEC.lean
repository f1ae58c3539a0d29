/- Its operations (part 2), code, functions. Nothing of a program stands here. -/
import Derived.Test.YtmdnkhidhkbgcaaGreatDoorEB
namespace Go.PE
section
variable {P : Program} {R : Ren}
theorem run_loadVarT {t : TypeId} {g : Bool} {n : Nat} (hs : shapeT P t = some (g, n)) {cs : List V} {xs : List Value} (hx : VRL R cs xs) {v : V} (hm : mk g cs = some v) (hn : cs.length = n)
    {addr : Addr} {w : World} (hr : ∀ (j : Nat) (y : Value), xs[j]? = some y → w.cell? (addr.add j) = some y) : ∃ v', (loadVar t addr).run P w = .ok v' w ∧ VR R v v' := by
  obtain ⟨h1, h2, ⟨d, h3⟩, h4, h5⟩ := shapeT_ok hs
  have hlen := hx.length
  cases g with
  | true =>
    simp only [mk, if_true, Option.some.injEq] at hm; subst hm
    have hl := run_loadCells_list (P := P) w addr xs hr
    rw [← hlen, hn] at hl
    refine ⟨.agg xs.toArray, ?_, .agg (by simpa using hx)⟩
    simp [loadVar, run_isAgg h3, h2, run_sizeT h1, hl]
  | false =>
    have hn1 := h4 rfl
    obtain ⟨v0, x0, rfl, rfl, hv0⟩ := one_of_length hx (by omega)
    simp only [mk, Bool.false_eq_true, if_false, Option.some.injEq] at hm; subst hm
    have hc := hr 0 x0 (by simp)
    have ha : addr.add 0 = addr := by simp [Addr.add]
    rw [ha] at hc
    refine ⟨x0, ?_, hv0⟩
    simp [loadVar, run_isAgg h3, h2, hc]
theorem load_ok {t : TypeId} {g : Bool} {n : Nat} (hs : shapeT P t = some (g, n)) {x : V} {x' : Value} (hx : VR R x x') {H : Heap} {v : V} (h : loadE g n x H = some v) {w : World} (hrel : Rel R (H[·]?) w) :
    ∃ v', (Instr.loadAt t x').run P w = .ok v' w ∧ VR R v v' := by
  cases hx <;> simp only [loadE, reduceCtorEq] at h
  · rename_i b v0 off ext L a1 a2 a3
    split at h
    · rename_i hle
      rw [Option.bind_eq_some_iff] at h
      obtain ⟨cs, hcs, hm⟩ := h
      obtain ⟨hlen, xs, hxs, hr⟩ := hrel.read a1 a2 (by omega) hcs
      obtain ⟨v', h1, h2⟩ := run_loadVarT hs hxs hm hlen hr
      exact ⟨v', by simp [Instr.loadAt, Instr.sureAddr, h1], h2⟩
    · simp at h
  · rename_i l r o a1
    split at h
    · rename_i hle
      obtain ⟨xs, hxs, hr⟩ := hrel.readIm a1 n hle
      obtain ⟨v', h1, h2⟩ := run_loadVarT hs hxs h (by simp; omega) hr
      exact ⟨v', by simp [Instr.loadAt, Instr.sureAddr, h1], h2⟩
    · simp at h
theorem int_of_VR {k : V} {k' : Value} (hk : VR R k k') {a : IntKind} {m : Int} (h : k = .int a m) : k' = .int a m := by
  subst h; cases hk; rfl
theorem find_ok {k0 : IntKind} {a : IntKind} {m : Int} : ∀ {es : List (V × V × Nat)} {es' : List MapEntry} {r : Option V}, MapR R es es' → findE (.int a m) es = some r → ∀ (i : Nat),
    ∃ r', Instr.findNow (.int k0) (.int a m) es' i = some r' ∧ (match r, r' with | none, none => True | some v, some (_, v') => VR R v v' | _, _ => False)
  | _, _, r, .nil, h, i => by
    simp only [findE, Option.some.injEq] at h; subst h
    exact ⟨none, rfl, trivial⟩
  | _, _, r, .cons (k := kk) (v := vv) (e := e) hk hv _ hrest, h, i => by
    cases kk <;> simp only [findE, reduceCtorEq] at h
    rename_i b1 n1
    have hke := int_of_VR hk rfl
    split at h
    · rename_i hab
      subst hab
      split at h
      · rename_i hmn
        simp only [Option.some.injEq] at h; subst h
        refine ⟨some (i, e.val), ?_, hv⟩
        simp only [Instr.findNow, Instr.sameNow, hke, if_true, hmn]
      · rename_i hmn
        obtain ⟨r', h1, h2⟩ := find_ok (k0 := k0) hrest h (i + 1)
        refine ⟨r', ?_, h2⟩
        have hmn' : (m == n1) = false := by simpa using hmn
        simp only [Instr.findNow, Instr.sameNow, hke, if_true, hmn']
        exact h1
    · simp at h
theorem run_checkKey {key : TypeId} {k0 : IntKind} (h : P.underlying key = some (.int k0)) (b : Bool) (n : Nat) (k : IntKind) (m : Int) (w : World) :
    (Instr.checkKey b (n + 1) key (.int k m)).run P w = .ok () w := by
  simp only [Instr.checkKey, Sem.run_bind, run_underlying h, Result.andThen_ok]
  rfl
theorem run_getMap {r : Nat} {es : Array MapEntry} {clock : Nat} {w : World} (h : w.heap[r]? = some (.map es clock)) : (getObj r).run P w = .ok (.map es clock) w := by
  simp [getObj, Sem.run, h]
theorem zeroV_ok {t : TypeId} {z : V} (h : zeroV P t = some z) : ∃ v, (∀ w, (zeroValue t).run P w = .ok v w) ∧ VR R z v := by
  unfold zeroV at h
  rw [Option.bind_eq_some_iff] at h
  obtain ⟨v, hv, hz⟩ := h
  rw [Option.bind_eq_some_iff] at hv
  obtain ⟨i, hi, hv⟩ := hv
  exact ⟨v, fun w => run_zero hi hv w, ofConst_ok hz⟩
def outV (zv : Value) (ok : Bool) (r : Option (Nat × Value)) : Value :=
  match r with
  | some (_, v) => if ok then .tuple #[v, .bool true] else v
  | none => if ok then .tuple #[zv, .bool false] else zv
theorem run_lookup {t key el : TypeId} {k0 : IntKind} {ok : Bool} (hu : P.underlying t = some (.map key el)) (hk0 : P.underlying key = some (.int k0)) {zv : Value} (hzv : ∀ w, (zeroValue el).run P w = .ok zv w)
    {m' : Value} {es : Array MapEntry} {w : World} (hm : (m' = .map none ∧ es = #[]) ∨ ∃ r clock, m' = .map (some r) ∧ w.heap[r]? = some (.map es clock)) {a : IntKind} {n : Int} {r' : Option (Nat × Value)}
    (h : Instr.findNow (.int k0) (.int a n) es.toList 0 = some r') :
    (Instr.lookup t m' (.int a n) ok).run P w = .ok (outV zv ok r') w := by
  have hfk : (Instr.findKey key (.int a n) es.toList).run P w = .ok r' w := by
    simp only [Instr.findKey, Sem.run_bind, run_underlying hk0, Result.andThen_ok, h, Sem.run_pure]
  have hck := run_checkKey hk0 es.isEmpty 9999 a n w
  rcases hm with ⟨rfl, rfl⟩ | ⟨r, clock, rfl, hb⟩
  · simp only [Instr.lookup, Sem.run_bind, run_underlying hu, Result.andThen_ok, Sem.run_pure, hck, hfk]
    cases r' with
    | none => simp only [Sem.run_bind, hzv, Result.andThen_ok, Sem.run_pure]; rfl
    | some p => rfl
  · simp only [Instr.lookup, Sem.run_bind, run_underlying hu, Result.andThen_ok, Sem.run_pure, run_getMap hb, hck, hfk]
    cases r' with
    | none => simp only [Sem.run_bind, hzv, Result.andThen_ok, Sem.run_pure]; rfl
    | some p => rfl
theorem out_ok {r : Option V} {r' : Option (Nat × Value)} (h3 : match r, r' with | none, none => True | some v, some (_, v') => VR R v v' | _, _ => False) {z0 : V} {zv : Value} (hrz : VR R z0 zv) (ok : Bool) :
    VR R (outE z0 ok r) (outV zv ok r') := by
  cases r with
  | none =>
    cases r' with
    | some p => simp at h3
    | none =>
      cases ok
      · exact hrz
      · exact .tup (.cons hrz (.cons (.bool _) .nil))
  | some v =>
    cases r' with
    | none => simp at h3
    | some p =>
      cases ok
      · exact h3
      · exact .tup (.cons h3 (.cons (.bool _) .nil))
theorem lookup_ok {t key el : TypeId} {k0 : IntKind} {z0 : V} {ok : Bool} (hu : P.underlying t = some (.map key el)) (hk0 : P.underlying key = some (.int k0))
    (hz : zeroV P el = some z0) {m k : V} {m' k' : Value} (hm : VR R m m') (hk : VR R k k') {H : Heap} {v : V} (h : lookupE z0 ok m k H = some v) {w : World} (hrel : Rel R (H[·]?) w) :
    ∃ v', (Instr.lookup t m' k' ok).run P w = .ok v' w ∧ VR R v v' := by
  obtain ⟨zv, hzv, hrz⟩ := zeroV_ok (R := R) hz
  cases hm <;> simp only [lookupE, reduceCtorEq] at h
  · rename_i b rr hr
    cases hk <;> simp only [reduceCtorEq] at h
    rename_i a n
    split at h
    · rename_i es clock hg
      obtain ⟨es1, clock1, es', hg1, hb1, hmr⟩ := hrel.mp b rr hr
      have hg1' : H[b]? = some (.map es1 clock1) := hg1
      rw [hg] at hg1'
      simp only [Option.some.injEq, Box.map.injEq] at hg1'
      obtain ⟨rfl, rfl⟩ := hg1'
      rw [Option.map_eq_some_iff] at h
      obtain ⟨r, hfr, rfl⟩ := h
      obtain ⟨r', h1, h2⟩ := find_ok (k0 := k0) hmr hfr 0
      exact ⟨_, run_lookup hu hk0 hzv (.inr ⟨rr, clock, rfl, hb1⟩) h1, out_ok h2 hrz ok⟩
    · simp at h
  · cases hk <;> simp only [Option.some.injEq, reduceCtorEq] at h
    subst h
    exact ⟨_, run_lookup (r' := none) hu hk0 hzv (.inl ⟨rfl, rfl⟩) rfl, out_ok (r := none) (r' := none) trivial hrz ok⟩
theorem bytes_ok : ∀ {cs : List V} {xs : List Value} {bs : List UInt8}, VRL R cs xs → bytesE cs = some bs → ∀ (acc : ByteArray) (w : World),
    (forIn xs acc (fun (c : Value) (s : ByteArray) => (match c with
      | .int .u8 n => do
        let s := s.push (UInt8.ofNat n.toNat)
        pure (ForInStep.yield s)
      | _ => stuck "bytesToString: byte expected" : Sem (ForInStep ByteArray)))).run P w = .ok ⟨acc.data ++ bs.toArray⟩ w
  | _, _, bs, .nil, h, acc, w => by
    simp only [bytesE, Option.some.injEq] at h; subst h
    simp
  | _, _, bs, .cons (v := v) (x := x) a b, h, acc, w => by
    cases a <;> first | (exact absurd h (by simp [bytesE])) | skip
    rename_i k n
    cases k <;> first | (simp only [bytesE, reduceCtorEq] at h; done) | skip
    simp only [bytesE, Option.map_eq_some_iff] at h
    obtain ⟨bs', h1, rfl⟩ := h
    have ih := bytes_ok b h1 (acc.push (UInt8.ofNat n.toNat)) w
    simp only [List.forIn_cons, Sem.run_bind, Sem.run_pure, Result.andThen_ok]
    rw [ih]
    congr 2
    apply Array.ext'
    simp [ByteArray.push]
theorem firstCells_ok {es n : Nat} {x : V} {x' : Value} (hx : VR R x x') {H : Heap} {cs : List V} (h : firstE es n x H = some cs) {w : World} (hrel : Rel R (H[·]?) w) :
    ∃ xs : Array Value, (Builtin.firstCells es n x').run P w = .ok xs w ∧ VRL R cs xs.toList := by
  cases hx <;> simp only [firstE, reduceCtorEq] at h
  · rename_i s
    split at h
    · rename_i h1
      simp only [Option.some.injEq] at h; subst h
      refine ⟨(s.extract 0 n).data.map fun b => .int .u8 b.toNat, rfl, ?_⟩
      have hd : (s.extract 0 n).data.toList = s.data.toList.take n := by
        rw [← subStr_eq]; simp [subStr]
      rw [Array.toList_map, hd]
      refine VRL.of_get (by simp) fun j v hv => ?_
      rw [List.getElem?_map, Option.map_eq_some_iff] at hv
      obtain ⟨b, hb, rfl⟩ := hv
      exact ⟨_, by rw [List.getElem?_map, hb]; rfl, .int _ _⟩
    · simp at h
  · rename_i b v off len es' c cap L a1 a2 a3 a4 a5 a6
    split at h
    · rename_i hc
      obtain ⟨rfl, hn⟩ := hc
      have hmul : n * es ≤ len * es := Nat.mul_le_mul_right _ hn
      obtain ⟨hlen, xs, hxs, hr⟩ := hrel.read a1 a2 (by omega) h
      have hl := run_loadCells_list (P := P) w _ xs hr
      rw [← hxs.length, hlen] at hl
      exact ⟨xs.toArray, hl, by simpa using hxs⟩
    · simp at h
  · rename_i b v off es' r o cap L a1 a2 a3 a4
    split at h
    · rename_i hc
      obtain ⟨rfl, hn⟩ := hc
      have hn0 : n = 0 := by omega
      subst hn0
      obtain ⟨hlen, xs, hxs, hr⟩ := hrel.read a1 a2 (by omega) h
      have : cs = [] := List.eq_nil_of_length_eq_zero (by omega)
      subst this
      refine ⟨#[], ?_, .nil⟩
      simp [Builtin.firstCells, loadCells, loadCellsFrom]
    · simp at h
  · split at h
    · rename_i hn
      subst hn
      simp only [Option.some.injEq] at h; subst h
      exact ⟨#[], rfl, .nil⟩
    · simp at h
  · split at h
    · rename_i hn
      subst hn
      simp only [Option.some.injEq] at h; subst h
      exact ⟨#[], by simp [Builtin.firstCells, loadCells, loadCellsFrom], .nil⟩
    · simp at h
  · rename_i m r o c l a1 a2
    split at h
    · rename_i hc
      simp only [Option.some.injEq] at h; subst h
      obtain ⟨xs, hxs, hr⟩ := hrel.readIm a1 (n * es) hc.2
      have hl := run_loadCells_list (P := P) w _ xs hr
      rw [← hxs.length, List.length_take, Nat.min_eq_left hc.2] at hl
      exact ⟨xs.toArray, hl, by simpa using hxs⟩
    · simp at h
theorem lenOf_ok {x : V} {x' : Value} (hx : VR R x x') {n : Nat} (h : lenE x = some n) (w : World) : (Builtin.lenOf x').run P w = .ok n w := by
  rcases lenE_ok hx h with ⟨s, rfl, rfl, rfl⟩ | ⟨a, c, rfl⟩ <;> rfl
def Op.mayRead : Op → Bool
  | .load .. | .lookup .. | .convert .. => true
  | _ => false
theorem notRead_builtin {b : Builtin} {ats : Array TypeId} {args : List Operand} {eo : EOp} (hc : cBuiltin P b ats args = some eo) : readsMem eo = false := by
  unfold cBuiltin at hc
  repeat' split at hc
  all_goals first
    | (simp only [reduceCtorEq] at hc; done)
    | (rw [Option.map_eq_some_iff] at hc; obtain ⟨y, hy, rfl⟩ := hc; rfl)
    | (simp only [Option.some.injEq] at hc; subst hc; rfl)
theorem notRead {o : Oper} {eo : EOp} (hc : cOp P o = some eo) (h : Op.mayRead o.op = false) : readsMem eo = false := by
  obtain ⟨dst, op, ty, pos, after, guard⟩ := o
  cases op <;> simp only [Op.mayRead, Bool.true_eq_false] at h
  case move | assign | nilCheck | unOp | extract | alloc | box =>
    simp only [cOp, Option.map_eq_some_iff] at hc
    obtain ⟨y, hy, rfl⟩ := hc
    rfl
  case pick =>
    simp only [cOp, Option.bind_eq_bind, Option.bind_eq_some_iff, Option.some.injEq] at hc
    obtain ⟨c1, hc1, x1, hx1, y1, hy1, rfl⟩ := hc
    rfl
  case binOp =>
    simp only [cOp, cBin, cEq] at hc
    repeat' split at hc
    all_goals first
      | (simp only [reduceCtorEq] at hc; done)
      | (rw [Option.map_eq_some_iff] at hc; obtain ⟨y, hy, rfl⟩ := hc; rfl)
      | (simp only [Option.some.injEq] at hc; subst hc; rfl)
  case call c =>
    obtain ⟨callee, args, ats⟩ := c
    simp only [cOp] at hc
    cases callee with
    | invoke r m => simp at hc
    | builtin b => exact notRead_builtin hc
    | value f =>
      cases f <;> simp only at hc
      case func f =>
        rw [Option.map_eq_some_iff] at hc
        obtain ⟨y, hy, rfl⟩ := hc
        rfl
      all_goals
        split at hc
        · simp only [Option.some.injEq] at hc; subst hc; rfl
        · simp at hc
  case makeFunc fn first captured =>
    cases fn <;> simp only [cOp, reduceCtorEq] at hc
    split at hc
    · simp only [Option.some.injEq] at hc; subst hc; rfl
    · simp at hc
  case slice t x lo hi mx =>
    cases mx <;> simp only [cOp, reduceCtorEq] at hc
    repeat' split at hc
    all_goals first
      | (simp only [reduceCtorEq] at hc; done)
      | (simp only [Option.some.injEq] at hc; subst hc; rfl)
  case makeMap t r =>
    cases r <;> simp only [cOp, reduceCtorEq] at hc
    repeat' split at hc
    all_goals first
      | (simp only [reduceCtorEq] at hc; done)
      | (simp only [Option.some.injEq] at hc; subst hc; rfl)
  all_goals
    simp only [cOp] at hc
    repeat' split at hc
    all_goals first
      | (simp only [reduceCtorEq] at hc; done)
      | (rw [Option.map_eq_some_iff] at hc; obtain ⟨y, hy, rfl⟩ := hc; rfl)
      | (simp only [Option.some.injEq] at hc; subst hc; rfl)
theorem read_ok {o : Oper} {eo : EOp} (hc : cOp P o = some eo) (hp : readsMem eo = true) {e : Env} {a : Act} (hE : VRL R e a.tmps.toList) {X : Ctx} {H H' : Heap} {v : V}
    (h : evalOp X e H eo = some (v, H')) : H' = H ∧ ∀ {w : World}, Rel R (H[·]?) w → ∃ v', (execOp a.eval o).run P w = .ok (.value v') w ∧ VR R v v' := by
  obtain ⟨dst, op, ty, pos, after, guard⟩ := o
  cases op with
  | load t x =>
    simp only [cOp] at hc
    split at hc
    · rename_i g n x1 hs hx
      simp only [Option.some.injEq] at hc; subst hc
      simp only [evalOp] at h
      obtain ⟨h1, rfl⟩ := pure1_ok h
      refine ⟨rfl, fun hrel => ?_⟩
      obtain ⟨v', h2, h3⟩ := load_ok (P := P) hs (opd_ok hx hE) h1 hrel
      exact ⟨v', by simp [execOp, h2], h3⟩
    · simp at hc
  | lookup t m k ok =>
    simp only [cOp] at hc
    split at hc
    · rename_i key el hu
      split at hc
      · rename_i k0 z m1 k1 hk0 hz hm hk
        simp only [Option.some.injEq] at hc; subst hc
        simp only [evalOp] at h
        obtain ⟨h1, rfl⟩ := pure1_ok h
        refine ⟨rfl, fun hrel => ?_⟩
        obtain ⟨v', h2, h3⟩ := lookup_ok (P := P) hu hk0 hz (opd_ok hm hE) (opd_ok hk hE) h1 hrel
        exact ⟨v', by simp [execOp, h2], h3⟩
      · simp at hc
    · simp at hc
  | convert src dt x =>
    simp only [cOp] at hc
    split at hc
    · rw [Option.map_eq_some_iff] at hc
      obtain ⟨y, hy, rfl⟩ := hc
      simp [readsMem] at hp
    · rw [Option.map_eq_some_iff] at hc
      obtain ⟨y, hy, rfl⟩ := hc
      simp [readsMem] at hp
    · rename_i el hs hd
      split at hc
      · rename_i hel
        rw [Option.map_eq_some_iff] at hc
        obtain ⟨y, hy, rfl⟩ := hc
        have rx := opd_ok hy hE
        simp only [evalOp] at h
        split at h
        · simp at h
        · rename_i n hn hns
          split at h
          · rename_i cs hcs
            obtain ⟨h1, rfl⟩ := pure1_ok h
            rw [Option.map_eq_some_iff] at h1
            obtain ⟨bs, hbs, rfl⟩ := h1
            refine ⟨rfl, fun hrel => ?_⟩
            rename_i w
            obtain ⟨xs, h2, h3⟩ := firstCells_ok (P := P) rx hcs hrel
            rcases lenE_ok rx hn with ⟨s, he, _, _⟩ | ⟨q, c, hq⟩
            · exact absurd he (hns s)
            · refine ⟨.string ⟨bs.toArray⟩, ?_, .str _⟩
              rw [hq] at h2
              have hb := bytes_ok (P := P) h3 hbs .empty w
              have hconv : (convert src dt (.slice q n c)).run P w = .ok (.string ⟨bs.toArray⟩) w := by
                simp only [convert, Sem.run_bind, run_underlying hs, run_underlying hd, run_underlying hel, Result.andThen_ok]
                cases q with
                | none =>
                  simp only [Builtin.firstCells, Sem.run_pure, Result.ok.injEq, and_true] at h2
                  subst h2
                  have : cs = [] := by cases h3; rfl
                  subst this
                  simp only [bytesE, Option.some.injEq] at hbs; subst hbs
                  rfl
                | some q =>
                  simp only [Builtin.firstCells, Nat.mul_one] at h2
                  simp only [Conv.bytesToString, Sem.run_bind, h2, Result.andThen_ok]
                  rw [← Array.forIn_toList]
                  refine Eq.trans (congrArg (fun r => Result.andThen r _) hb) ?_
                  simp
              simp [execOp, hq, hconv]
          · simp at h
        · simp at h
      · simp at hc
    · simp at hc
  | _ =>
    have := notRead hc rfl
    rw [hp] at this
    simp at this
end
end Go.PE
namespace Go.PE
section
variable {P : Program} {R : Ren}
theorem writeCells_step {H H' : Heap} {b v off : Nat} {cs : List V} (h : writeCells H b v off cs = some H') (d : R.Dom b) : StepH R H R H' := by
  unfold writeCells at h
  split at h
  · split at h
    · simp only [Option.some.injEq] at h; subst h
      exact .set d _
    · simp at h
  · simp at h
theorem store_ok {t : TypeId} {g : Bool} {n : Nat} (hs : shapeT P t = some (g, n)) {p x : V} {p' x' : Value} (hp : VR R p p') (hx : VR R x x') {H H' : Heap} (h : storeE n p x H = some H') {w : World} (hrel : Rel R (H[·]?) w) :
    ∃ w', (Instr.storeAt t p' x').run P w = .ok () w' ∧ StepR R w R w' ∧ Rel R (H'[·]?) w' ∧ StepH R H R H' := by
  cases hp <;> simp only [storeE, reduceCtorEq] at h
  rename_i b v off ext L a1 a2 a3
  split at h
  · rename_i hc
    have hcs := hx.cells
    have hlen := hcs.length
    obtain ⟨w', h1, h2, h3⟩ := hrel.write (P := P) a1 a2 (by omega) hcs h
    refine ⟨w', ?_, h2, h3, writeCells_step h (.inl ⟨v, L, a1⟩)⟩
    have hsz : x'.cells.size = n := by simp at hlen; omega
    simp [Instr.storeAt, Instr.sureAddr, storeVar, run_sizeT (shapeT_ok hs).1, hsz, h1]
  · simp at h
theorem Rel.setMap {H : Heap} {w : World} (h : Rel R (H[·]?) w) {b r : Nat} (hb : R.mp b = some r) {es1 : List (V × V × Nat)} {es2 : Array MapEntry} {c : Nat} (hm : MapR R es1 es2.toList) :
    Rel R ((H.set b (.map es1 c))[·]?) { w with heap := w.heap.setIfInBounds r (.map es2 c) } ∧ StepR R w R { w with heap := w.heap.setIfInBounds r (.map es2 c) } := by
  obtain ⟨es0, c0, es0', hg0, hb0, _⟩ := h.mp b r hb
  have hbl : b < H.length := (List.getElem?_eq_some_iff.1 (show H[b]? = some (.map es0 c0) from hg0)).1
  have hrl : r < w.heap.size := (Array.getElem?_eq_some_iff.1 hb0).1
  have hother : ∀ k, k ≠ r → ({ w with heap := w.heap.setIfInBounds r (.map es2 c) } : World).heap[k]? = w.heap[k]? := by
    intro k hk
    show (w.heap.setIfInBounds r _)[k]? = _
    rw [Array.getElem?_setIfInBounds, if_neg (fun e => hk e.symm)]
  refine ⟨⟨?_, h.inj, ?_, h.mpinj, ?_, h.imloc⟩, ⟨.refl R, rfl, rfl, rfl, by simp, fun k hk h1 h2 => hother k (fun e => h2 b (e ▸ hb)), fun _ v L h => .inl ⟨v, L, h, rfl⟩, fun _ _ e => .inl e, fun _ _ _ e => .inl e⟩⟩
  · intro b' v L e
    obtain ⟨l, ver, mn, c1, t, hg, ho, hk⟩ := h.loc b' v L e
    have hne : b' ≠ b := by
      rintro rfl
      have : H[b']? = some (.cells l ver mn) := hg
      have h2 : H[b']? = some (.map es0 c0) := hg0
      rw [h2] at this; simp at this
    refine ⟨l, ver, mn, c1, t, ?_, ho, ⟨?_, hk.n, hk.lohi, hk.hil, hk.fit, hk.vv, hk.mv, hk.top, hk.cell⟩⟩
    · show (H.set b _)[b']? = _
      rw [getElem?_set_heap hbl, if_neg hne]; exact hg
    · rw [hother _ (h.locmp e hb)]; exact hk.blk
  · intro b' r' e
    by_cases hbb : b' = b
    · subst hbb
      rw [hb] at e
      simp only [Option.some.injEq] at e; subst e
      refine ⟨es1, c, es2, by simp [hbl], ?_, hm⟩
      show (w.heap.setIfInBounds r _)[r]? = _
      simp [hrl]
    · obtain ⟨es, clock, es', hg, hk, hmm⟩ := h.mp b' r' e
      refine ⟨es, clock, es', ?_, ?_, hmm⟩
      · show (H.set b _)[b']? = _
        rw [getElem?_set_heap hbl, if_neg hbb]; exact hg
      · rw [hother r' (fun er => hbb (h.mpinj b' b r (er ▸ e) hb))]; exact hk
  · intro r' j x e
    obtain ⟨c', t', fz, y, hb', hy, hr⟩ := h.im r' j x e
    refine ⟨c', t', fz, y, ?_, hy, hr⟩
    rw [hother r' (fun er => by rw [er, hb0] at hb'; simp at hb')]; exact hb'
theorem upd_ok {k0 : IntKind} {a : IntKind} {m : Int} {x : V} {x' : Value} (hx : VR R x x') (clock : Nat) : ∀ {es es1 : List (V × V × Nat)} {es' : List MapEntry}, MapR R es es' → updE (.int a m) x clock es = some es1 → ∀ (i : Nat),
    (∃ j e, Instr.findNow (.int k0) (.int a m) es' i = some (some (i + j, e)) ∧ (∃ q, es'[j]? = some q ∧ q.key = .int a m) ∧ es1.length = es.length ∧
      MapR R es1 (es'.modify j fun e => { e with key := .int a m, val := x' })) ∨
    (Instr.findNow (.int k0) (.int a m) es' i = some none ∧ es1.length = es.length + 1 ∧ MapR R es1 (es' ++ [{ key := .int a m, val := x', born := clock }]))
  | _, es1, _, .nil, h, i => by
    simp only [updE, Option.some.injEq] at h; subst h
    exact .inr ⟨rfl, rfl, .cons (.int _ _) hx rfl .nil⟩
  | _, es1, _, .cons (k := kk) (v := vv) (n := nn) (e := e) (l := l) (es := es) hk hv hn hrest, h, i => by
    cases kk <;> simp only [updE, reduceCtorEq] at h
    rename_i b1 n1
    have hke := int_of_VR hk rfl
    split at h
    · rename_i hab
      subst hab
      split at h
      · rename_i hmn
        simp only [Option.some.injEq] at h; subst h
        have hmn' : m = n1 := by simpa using hmn
        refine .inl ⟨0, e.val, ?_, ⟨e, rfl, by rw [hke, hmn']⟩, rfl, ?_⟩
        · simp only [Instr.findNow, Instr.sameNow, hke, if_true, hmn, Nat.add_zero]
        · exact .cons (.int _ _) hx hn hrest
      · rename_i hmn
        rw [Option.map_eq_some_iff] at h
        obtain ⟨es2, h2, rfl⟩ := h
        have hmn' : (m == n1) = false := by simpa using hmn
        rcases upd_ok (k0 := k0) hx clock hrest h2 (i + 1) with ⟨j, e2, g1, ⟨q, g2, g3⟩, g4, g5⟩ | ⟨g1, g4, g5⟩
        · refine .inl ⟨j + 1, e2, ?_, ⟨q, by simpa using g2, g3⟩, by simp [g4], ?_⟩
          · simp only [Instr.findNow, Instr.sameNow, hke, if_true, hmn']
            rw [g1]; congr 3; omega
          · simpa using MapR.cons hk hv hn g5
        · refine .inr ⟨?_, by simp [g4], ?_⟩
          · simp only [Instr.findNow, Instr.sameNow, hke, if_true, hmn']
            exact g1
          · exact .cons hk hv hn g5
    · simp at h
theorem mapUpd_ok {t key el : TypeId} {k0 : IntKind} (hu : P.underlying t = some (.map key el)) (hk0 : P.underlying key = some (.int k0)) {m k x : V} {m' k' x' : Value} (hm : VR R m m') (hk : VR R k k') (hx : VR R x x')
    {H H' : Heap} (h : mapUpdE m k x H = some H') {w : World} (hrel : Rel R (H[·]?) w) : ∃ w', (Instr.mapUpdate t m' k' x').run P w = .ok () w' ∧ StepR R w R w' ∧ Rel R (H'[·]?) w' ∧ StepH R H R H' := by
  cases hm <;> simp only [mapUpdE, reduceCtorEq] at h
  rename_i b rr hr
  cases hk <;> simp only [reduceCtorEq] at h
  rename_i a n
  split at h
  · rename_i es clock hg
    obtain ⟨es1, clock1, es', hg1, hb1, hmr⟩ := hrel.mp b rr hr
    have hg1' : H[b]? = some (.map es1 clock1) := hg1
    rw [hg] at hg1'
    simp only [Option.some.injEq, Box.map.injEq] at hg1'
    obtain ⟨rfl, rfl⟩ := hg1'
    rw [Option.map_eq_some_iff] at h
    obtain ⟨es2, h2, rfl⟩ := h
    have hck := run_checkKey hk0 false 9999 a n w
    have hset : ∀ (o : Obj), (∀ c e f, o ≠ .cells c e f) → (setObj rr o).run P w = .ok () { w with heap := w.heap.setIfInBounds rr o } := by
      intro o _
      simp [setObj, Sem.run, hb1]
    rcases upd_ok (k0 := k0) hx clock hmr h2 0 with ⟨j, e2, g1, ⟨q, g2, g3⟩, g4, g5⟩ | ⟨g1, g4, g5⟩
    · have hfk : (Instr.findKey key (.int a n) es'.toList).run P w = .ok (some (j, e2)) w := by
        simp only [Instr.findKey, Sem.run_bind, run_underlying hk0, Result.andThen_ok, g1, Sem.run_pure, Nat.zero_add]
      have hsb : Instr.sameBits 10000 (.int a n) (.int a n) = true := by simp [Instr.sameBits]
      have hq : es'[j]? = some q := by rw [← Array.getElem?_toList]; exact g2
      obtain ⟨r1, r2⟩ := hrel.setMap hr (es1 := es2) (es2 := es'.modify j fun e => { e with key := .int a n, val := x' }) (c := clock) (by simpa using g5)
      refine ⟨_, ?_, r2, ?_, .set (.inr ⟨rr, hr⟩) _⟩
      · simp only [Instr.mapUpdate, Sem.run_bind, run_underlying hu, Result.andThen_ok, run_getMap hb1, hck, hfk, hq, Option.map_some, Option.getD_some, g3, Instr.keyThatStays, hsb, if_true, Sem.run_pure]
        rw [hset _ (by simp)]
      · rw [if_pos g4]; exact r1
    · have hfk : (Instr.findKey key (.int a n) es'.toList).run P w = .ok none w := by
        simp only [Instr.findKey, Sem.run_bind, run_underlying hk0, Result.andThen_ok, g1, Sem.run_pure]
      obtain ⟨r1, r2⟩ := hrel.setMap hr (es1 := es2) (es2 := es'.push { key := .int a n, val := x', born := clock }) (c := clock + 1) (by simpa using g5)
      refine ⟨_, ?_, r2, ?_, .set (.inr ⟨rr, hr⟩) _⟩
      · simp only [Instr.mapUpdate, Sem.run_bind, run_underlying hu, Result.andThen_ok, run_getMap hb1, hck, hfk]
        rw [hset _ (by simp)]
      · rw [if_neg (by omega)]; exact r1
  · simp at h
end
end Go.PE
namespace Go.PE
section
variable {P : Program} {R : Ren}
theorem growBy_le (n : Nat) : ∀ (k c : Nat), Builtin.growBy n k c ≤ max c (n + (n + 768) / 4)
  | 0, c => by simp only [Builtin.growBy]; omega
  | k + 1, c => by
    simp only [Builtin.growBy]
    split
    · omega
    · have := growBy_le n k (c + (c + 768) / 4)
      omega
theorem nextcap_le {need cap : Nat} (h : cap < need) : Builtin.nextslicecap need cap ≤ 2 * need + 1000 := by
  unfold Builtin.nextslicecap
  split
  · omega
  · split
    · omega
    · have := growBy_le need 4 cap
      omega
theorem run_append_here {t u el : TypeId} {d : TypeDesc} (ht : P.underlying t = some (.slice el)) (hu : P.underlying u = some d) (hd : isIntT d = false) {es : Nat} (hn : sizeT P el = some es) {base : Option Addr} {len cap k : Nat} {x' : Value} {w : World}
    (hk : (Builtin.lenOf x').run P w = .ok k w) (hle : len + k ≤ cap) {xs : Array Value} (hxs : (Builtin.firstCells es k x').run P w = .ok xs w) {w' : World}
    (hst : (match base with | some a => storeCells (a.add (len * es)) xs.toList | none => pure () : Sem Unit).run P w = .ok () w') (ty : TypeId) :
    (Builtin.append_ #[t, u] ty #[.slice base len cap, x']).run P w = .ok (.slice base (len + k) cap) w' := by
  cases d <;> first | (simp [isIntT] at hd; done) | skip
  all_goals
    simp only [Builtin.append_, List.getElem?_toArray, List.getElem?_cons_zero, List.getElem?_cons_succ, Sem.run_bind, run_underlying ht, Result.andThen_ok, run_sizeT hn, run_underlying hu, Sem.run_pure]
    simp only [Bool.false_eq_true, if_false, Sem.run_bind, hk, Result.andThen_ok, if_pos hle, Bool.not_false, if_true, hxs]
    cases base with
    | none =>
      simp only [Sem.run_pure, Result.ok.injEq, true_and] at hst
      subst hst; rfl
    | some a =>
      simp only at hst
      simp only [Sem.run_bind, hst, Result.andThen_ok, Sem.run_pure]
theorem run_append_grow {t u el : TypeId} {d : TypeDesc} (ht : P.underlying t = some (.slice el)) (hu : P.underlying u = some d) (hd : isIntT d = false) {es bytes : Nat} (hn : sizeT P el = some es) (hb : bytesT P el = some bytes)
    {z : List V} (hz0 : zeroT P el = some z) (hzl : z.length = es) (hbp : 0 < bytes)
    {base : Option Addr} {len cap k : Nat} {x' : Value} {w : World}
    (hk : (Builtin.lenOf x').run P w = .ok k w) (hlt : cap < len + k) (hroom : room (len + k) bytes = true) {xs old : Array Value}
    (hxs : (Builtin.firstCells es k x').run P { w with drawn := w.drawn + 1 } = .ok xs { w with drawn := w.drawn + 1 })
    (hold : (Builtin.firstCells es len (.slice base len cap)).run P { w with drawn := w.drawn + 1 } = .ok old { w with drawn := w.drawn + 1 }) (ty : TypeId) :
    ∃ (nc : Nat) (rest : Array Value), len + k ≤ nc ∧ rest.size = (nc - (len + k)) * es ∧
      (Builtin.append_ #[t, u] ty #[.slice base len cap, x']).run P w = .ok (.slice (some ⟨w.heap.size, 0, none⟩) (len + k) nc) (({ w with drawn := w.drawn + 1 } : World).alloc (.cells (old ++ xs ++ rest) el)) := by
  obtain ⟨i, hi, hib⟩ := bytesT_ok hb
  obtain ⟨i2, zv, hi2, hzv, hrz⟩ := zeroT_ok (R := ⟨fun _ _ => none, fun _ => none, fun _ _ => none, fun _ => none, fun _ => none⟩) hz0
  rw [hi] at hi2
  simp only [Option.some.injEq] at hi2; subst hi2
  have hzvl : zv.cells.size = es := by
    have := hrz.length
    simp at this; omega
  have hroom' : (2 * (len + k) + 1000) * bytes ≤ 2 ^ 47 := by simpa [room] using hroom
  have hcap : ¬ Builtin.nextslicecap (len + k) cap * i.bytes > 2 ^ 48 := by
    have h1 := nextcap_le hlt
    have h2 := Nat.mul_le_mul_right bytes h1
    rw [hib]; omega
  have hneed : ¬ (((len + k : Nat) : Int) > IntKind.i64.max ∧ (False ∨ i.bytes = 0)) := by
    rintro ⟨_, h | h⟩
    · exact h
    · omega
  refine ⟨(Question.appendCap (len + k) cap el).cut (w.tape w.drawn (.appendCap (len + k) cap el)),
    Builtin.zeroCells zv.cells ((Question.appendCap (len + k) cap el).cut (w.tape w.drawn (.appendCap (len + k) cap el)) - (len + k)), ?_, ?_, ?_⟩
  · simp [Question.cut]
  · simp [Builtin.zeroCells, hzvl]
  · have hnle : ¬ len + k ≤ cap := by omega
    have hforced : (Question.appendCap (len + k) cap el).forced = false := rfl
    cases d <;> first | (simp [isIntT] at hd; done) | skip
    all_goals
      simp only [Builtin.append_, List.getElem?_toArray, List.getElem?_cons_zero, List.getElem?_cons_succ, Sem.run_bind, run_underlying ht, Result.andThen_ok, run_sizeT hn, run_underlying hu, Sem.run_pure]
      simp only [Bool.false_eq_true, if_false, Sem.run_bind, hk, Result.andThen_ok, if_neg hnle, run_infoT hi, false_or]
      rw [if_neg (by rintro ⟨_, h⟩; omega)]
      simp only [Sem.run_bind, run_infoT hi, Result.andThen_ok]
      rw [if_neg hcap]
      simp only [Sem.run_bind, run_choose, hforced, Bool.false_eq_true, if_false, Result.andThen_ok, run_infoT hi, run_askRoom, hold, Bool.not_false, if_true, hxs, run_zero hi hzv, newRow, run_newObj, Sem.run_pure]
      rfl
theorem append_ok {t u el : TypeId} {d : TypeDesc} (ht : P.underlying t = some (.slice el)) (hu : P.underlying u = some d) (hd : isIntT d = false) {es bytes : Nat} (hn : sizeT P el = some es) (hb : bytesT P el = some bytes)
    {z : List V} (hz0 : zeroT P el = some z) (hzl : z.length = es) (hbp : 0 < bytes)
    {s x : V} {s' x' : Value} (hs : VR R s s') (hx : VR R x x') {H H' : Heap} {v : V} (h : appendE es bytes s x H = some (v, H')) {w : World} (hrel : Rel R (H[·]?) w) (ty : TypeId) :
    ∃ v' w' R', (Builtin.append_ #[t, u] ty #[s', x']).run P w = .ok v' w' ∧ StepR R w R' w' ∧ Rel R' (H'[·]?) w' ∧ VR R' v v' ∧ StepH R H R' H' := by
  simp only [appendE, Option.bind_eq_bind, Option.bind_eq_some_iff] at h
  obtain ⟨k, hk, xs, hxs, h⟩ := h
  have hk' := lenOf_ok (P := P) hx hk w
  split at h
  case isFalse => simp at h
  case isTrue hone =>
  simp only [Bool.and_eq_true, beq_iff_eq] at hone
  obtain ⟨hone, hlen⟩ := hone
  split at h
  · rename_i hk0
    subst hk0
    obtain ⟨xs', hfx, hrx⟩ := firstCells_ok (P := P) hx hxs hrel
    have hxl : xs' = #[] := by
      have := hrx.length
      exact Array.eq_empty_of_size_eq_zero (by simp at this; omega)
    subst hxl
    have here : ∀ base len cap, len ≤ cap → (Builtin.append_ #[t, u] ty #[.slice base len cap, x']).run P w = .ok (.slice base len cap) w := by
      intro base len cap hle
      refine run_append_here (k := 0) ht hu hd hn hk' hle hfx ?_ ty
      cases base <;> rfl
    cases hs <;> simp only [Option.some.injEq, Prod.mk.injEq, reduceCtorEq] at h
    · obtain ⟨rfl, rfl⟩ := h
      rename_i a1 a2 a3 a4 a5 a6
      exact ⟨_, w, R, here _ _ _ a4, .refl R w, hrel, .slice a1 a2 a3 a4 a5 a6, .refl R H⟩
    · obtain ⟨rfl, rfl⟩ := h
      rename_i a1 a2 a3 a4
      exact ⟨_, w, R, here _ _ _ (Nat.le_refl _), .refl R w, hrel, .slice0 a1 a2 a3 a4, .refl R H⟩
    · obtain ⟨rfl, rfl⟩ := h
      exact ⟨_, w, R, here _ _ _ (Nat.le_refl _), .refl R w, hrel, .nils, .refl R H⟩
    · obtain ⟨rfl, rfl⟩ := h
      exact ⟨_, w, R, here _ _ _ (Nat.le_refl _), .refl R w, hrel, .emp0, .refl R H⟩
    · obtain ⟨rfl, rfl⟩ := h
      rename_i a1 a2
      exact ⟨_, w, R, here _ _ _ a2, .refl R w, hrel, .psl a1 a2, .refl R H⟩
  · rename_i hk0
    have hrel1 := hrel.drew (w.drawn + 1)
    obtain ⟨xs1, hfx1, hrx1⟩ := firstCells_ok (P := P) hx hxs hrel1
    have hxl1 := hrx1.length
    simp only [Array.length_toList] at hxl1
    have fresh : ∀ (base : Option Addr) (len cap : Nat) (old : List V) (old' : Array Value), cap < len + k → room (len + k) bytes = true → (Builtin.firstCells es len (.slice base len cap)).run P { w with drawn := w.drawn + 1 } = .ok old' { w with drawn := w.drawn + 1 } →
        VRL R old old'.toList → old.all V.one = true → old.length = len * es →
        ∃ v' w' R', (Builtin.append_ #[t, u] ty #[.slice base len cap, x']).run P w = .ok v' w' ∧ StepR R w R' w' ∧ Rel R' ((H ++ [.cells (old ++ xs) 0 0])[·]?) w' ∧ VR R' (.slice H.length 0 0 (len + k) es none) v' ∧ StepH R H R' (H ++ [.cells (old ++ xs) 0 0]) := by
      intro base len cap old old' hlt hroom hold hro hoone holen
      obtain ⟨nc, rest, hnc, hrs, hrun⟩ := run_append_grow ht hu hd hn hb hz0 hzl hbp hk' hlt hroom hfx1 hold ty
      have hrol := hro.length
      simp only [Array.length_toList] at hrol
      have hnone := hrel1.none_of_get (b := H.length) (by simp)
      have hmul : (len + k) * es = len * es + k * es := Nat.add_mul _ _ _
      have hsz : (old' ++ xs1 ++ rest).size = nc * es := by
        have : (len + k) * es + (nc - (len + k)) * es = nc * es := by rw [← Nat.add_mul]; congr 1; omega
        simp only [Array.size_append]; omega
      have hcl : (old ++ xs).length = (len + k) * es := by simp; omega
      have hle : (len + k) * es ≤ nc * es := Nat.mul_le_mul_right _ hnc
      obtain ⟨r1, r2⟩ := hrel1.alloc (b := H.length) (g' := ((H ++ [.cells (old ++ xs) 0 0])[·]?)) (cs := old ++ xs) (c := old' ++ xs1 ++ rest) (t := el) hnone.1 hnone.2 (by simp)
        (by
          intro q hq hdom
          have hql : q < H.length := by
            rcases hdom with ⟨v, L, hv⟩ | ⟨r, hr⟩
            · obtain ⟨l, ver, mn, c, t, hg, _⟩ := hrel1.loc q v L hv
              exact (List.getElem?_eq_some_iff.1 hg).1
            · obtain ⟨es0, c0, es1, hg, _⟩ := hrel1.mp q r hr
              exact (List.getElem?_eq_some_iff.1 hg).1
          simp [List.getElem?_append_left hql])
        (by rw [List.all_append, hoone, hone]; rfl) (by omega) (by
          have : ((old' ++ xs1 ++ rest).toList.take (old ++ xs).length) = old'.toList ++ xs1.toList := by
            simp only [Array.toList_append]
            rw [List.take_append_of_le_length (by simp; omega), List.take_of_length_le (by simp; omega)]
          rw [this]
          exact hro.append hrx1)
      refine ⟨_, _, _, hrun, (StepR.drew R w (w.drawn + 1)).trans r2, r1, ?_, .push _ fun b hb => Ren.addLoc_dom hb⟩
      refine VR.slice (Ren.addLoc_self _ _ _ _) (Nat.zero_le _) ?_ hnc (by simp) ?_
      · dsimp only; omega
      · intro _; dsimp only; omega
    cases hs <;> (try (simp only [reduceCtorEq] at h; done))
    · rename_i b v0 off len es' c cap L a1 a2 a3 a4 a5 a6
      cases cap with
      | none =>
        simp only at h
        split at h
        · rename_i l ver mn hg
          split at h
          · rename_i hc
            obtain ⟨rfl, rfl, hmn, hend, hroom⟩ := hc
            simp only [Option.some.injEq, Prod.mk.injEq] at h
            obtain ⟨rfl, rfl⟩ := h
            have hcap := a6 rfl
            by_cases hroomy : len + k ≤ c
            · obtain ⟨xs', hfx, hrx⟩ := firstCells_ok (P := P) hx hxs hrel
              have hmul : (len + k) * es = len * es + k * es := Nat.add_mul _ _ _
              have hle : (len + k) * es ≤ c * es := Nat.mul_le_mul_right _ hroomy
              obtain ⟨R', w', hR', hst, r1, r2⟩ := hrel.growHere (P := P) a1 hg hone hmn (by omega) hrx
              have hsh : StepH R H R' (H.set b (.cells (l ++ xs) (v0 + 1) mn)) := (StepH.set (.inl ⟨v0, L, a1⟩) _).mono fun k hk => by
                subst hR'
                rcases Ren.addLoc_dom hk with h1 | rfl
                · exact .inl h1
                · exact .inl (.inl ⟨v0, L, a1⟩)
              refine ⟨.slice (some ⟨L.r, off + L.sh - L.lo, none⟩) (len + k) c, w', R', ?_, r2, r1, ?_, hsh⟩
              · refine run_append_here ht hu hd hn hk' hroomy hfx ?_ ty
                simp only [addr_add]
                rw [show off + L.sh - L.lo + len * es = l.length + L.sh - L.lo by omega]
                exact hst
              · subst hR'
                have := VR.slice (R := R.addLoc b (v0 + 1) ⟨L.r, L.lo, l.length + xs.length, L.n, L.sh⟩) (off := off) (len := len + k) (es := es) (c := c) (cap := none) (Ren.addLoc_self _ _ _ _) a2 (by dsimp only; omega) hroomy (by simp) (by intro _; dsimp only; omega)
                exact this
            · obtain ⟨old', hfo, hro⟩ := firstCells_ok (P := P) (VR.slice a1 a2 a3 a4 a5 a6) (es := es) (n := len) (cs := l.drop off) (H := H) (by
                simp only [firstE, readCells, hg]
                rw [if_pos ⟨trivial, Nat.le_refl _⟩, if_pos ⟨hmn, by omega⟩, List.take_of_length_le (by simp; omega)]) hrel1
              obtain ⟨nc, rest, hnc, hrs, hrun⟩ := run_append_grow ht hu hd hn hb hz0 hzl hbp hk' (by omega) hroom hfx1 hfo ty
              have hrol := hro.length
              simp only [Array.length_toList, List.length_drop] at hrol
              have hmul : (len + k) * es = len * es + k * es := Nat.add_mul _ _ _
              have hsz : (old' ++ xs1 ++ rest).size = nc * es := by
                have : (len + k) * es + (nc - (len + k)) * es = nc * es := by rw [← Nat.add_mul]; congr 1; omega
                simp only [Array.size_append]; omega
              have hle : (len + k) * es ≤ nc * es := Nat.mul_le_mul_right _ hnc
              obtain ⟨R', hR', r1, r2⟩ := hrel1.growNew (c := old' ++ xs1 ++ rest) (t := el) a1 hg a2 (by omega) hone hmn (by omega) (by
                have : ((old' ++ xs1 ++ rest).toList.take (l.length - off + xs.length)) = old'.toList ++ xs1.toList := by
                  simp only [Array.toList_append]
                  rw [List.take_append_of_le_length (by simp; omega), List.take_of_length_le (by simp; omega)]
                rw [this]
                exact hro.append hrx1)
              refine ⟨_, _, R', hrun, (StepR.drew R w (w.drawn + 1)).trans r2, r1, ?_, (StepH.set (.inl ⟨v0, L, a1⟩) _).mono fun k hk => by
                  subst hR'
                  rcases Ren.addLoc_dom hk with h1 | rfl
                  · exact .inl h1
                  · exact .inl (.inl ⟨v0, L, a1⟩)⟩
              subst hR'
              have := VR.slice (R := R.addLoc b (v0 + 1) ⟨w.heap.size, off, l.length + xs.length, (old' ++ xs1 ++ rest).size, 0⟩) (off := off) (len := len + k) (es := es) (c := nc) (cap := none) (Ren.addLoc_self _ _ _ _) (Nat.le_refl _) (by dsimp only; omega) hnc (by simp) (by intro _; dsimp only; omega)
              simpa using this
          · simp at h
        · simp at h
      | some c0 =>
        simp only at h
        split at h
        · simp at h
        · rename_i hlt
          split at h
          · rename_i old hold
            split at h
            · rename_i hc
              simp only [Bool.and_eq_true, beq_iff_eq] at hc
              simp only [Option.some.injEq, Prod.mk.injEq] at h
              obtain ⟨rfl, rfl⟩ := h
              have hcc := a5 c0 rfl
              obtain ⟨old', hfo, hro⟩ := firstCells_ok (P := P) (VR.slice a1 a2 a3 a4 a5 a6) hold hrel1
              exact fresh _ _ _ old old' (by omega) hc.2 hfo hro hc.1.1 hc.1.2
            · simp at h
          · simp at h
    · rename_i b v0 off es' r o cap L a1 a2 a3 a4
      cases cap with
      | none =>
        simp only at h
        split at h
        · rename_i l ver mn hg
          split at h
          · rename_i hc
            obtain ⟨rfl, rfl, hmn, hend, hroom⟩ := hc
            simp only [Option.some.injEq, Prod.mk.injEq] at h
            obtain ⟨rfl, rfl⟩ := h
            have hfo : (Builtin.firstCells es 0 (.slice (some ⟨r, o, none⟩) 0 0)).run P { w with drawn := w.drawn + 1 } = .ok #[] { w with drawn := w.drawn + 1 } := by
              simp [Builtin.firstCells, loadCells, loadCellsFrom]
            obtain ⟨nc, rest, hnc, hrs, hrun⟩ := run_append_grow ht hu hd hn hb hz0 hzl hbp hk' (by omega) hroom hfx1 hfo ty
            have hsz : (#[] ++ xs1 ++ rest).size = nc * es := by
              have : (0 + k) * es + (nc - (0 + k)) * es = nc * es := by rw [← Nat.add_mul]; congr 1; omega
              have h0 : (0 + k) * es = k * es := by rw [Nat.zero_add]
              simp only [Array.size_append]
              have : (#[] : Array Value).size = 0 := rfl
              omega
            have hle : (0 + k) * es ≤ nc * es := Nat.mul_le_mul_right _ hnc
            have h0 : (0 + k) * es = k * es := by rw [Nat.zero_add]
            have hdrop : l.drop off = [] := List.drop_of_length_le (by omega)
            obtain ⟨R', hR', r1, r2⟩ := hrel1.growNew (c := #[] ++ xs1 ++ rest) (t := el) (off := off) a1 hg a2 (by omega) hone hmn (by omega) (by
              have : ((#[] ++ xs1 ++ rest).toList.take (l.length - off + xs.length)) = xs1.toList := by
                simp only [Array.toList_append, List.nil_append]
                rw [List.take_append_of_le_length (by simp; omega), List.take_of_length_le (by simp; omega)]
              rw [this, hdrop]
              exact hrx1)
            refine ⟨_, _, R', hrun, (StepR.drew R w (w.drawn + 1)).trans r2, r1, ?_, (StepH.set (.inl ⟨v0, L, a1⟩) _).mono fun k hk => by
                  subst hR'
                  rcases Ren.addLoc_dom hk with h1 | rfl
                  · exact .inl h1
                  · exact .inl (.inl ⟨v0, L, a1⟩)⟩
            subst hR'
            have := VR.slice (R := R.addLoc b (v0 + 1) ⟨w.heap.size, off, l.length + xs.length, (#[] ++ xs1 ++ rest).size, 0⟩) (off := off) (len := 0 + k) (es := es) (c := nc) (cap := none) (Ren.addLoc_self _ _ _ _) (Nat.le_refl _) (by dsimp only; omega) hnc (by simp) (by intro _; dsimp only; omega)
            simpa using this
          · simp at h
        · simp at h
      | some c0 =>
        have hc0 := a4 c0 rfl
        subst hc0
        simp only at h
        split at h
        · simp at h
        · rename_i hlt
          split at h
          · rename_i old hold
            split at h
            · rename_i hc
              simp only [Bool.and_eq_true, beq_iff_eq] at hc
              simp only [Option.some.injEq, Prod.mk.injEq] at h
              obtain ⟨rfl, rfl⟩ := h
              obtain ⟨old', hfo, hro⟩ := firstCells_ok (P := P) (VR.slice0 (r := r) (o := o) a1 a2 a3 a4) hold hrel1
              exact fresh _ _ _ old old' (by omega) hc.2 hfo hro hc.1.1 hc.1.2
            · simp at h
          · simp at h
    · simp only at h
      split at h
      · rename_i hroom
        simp only [Option.some.injEq, Prod.mk.injEq] at h
        obtain ⟨rfl, rfl⟩ := h
        have := fresh none 0 0 [] #[] (by omega) hroom rfl .nil rfl (by simp)
        simpa using this
      · simp at h
    · rename_i r o
      simp only at h
      split at h
      · rename_i hroom
        simp only [Option.some.injEq, Prod.mk.injEq] at h
        obtain ⟨rfl, rfl⟩ := h
        have := fresh (some ⟨r, o, none⟩) 0 0 [] #[] (by omega) hroom (by simp [Builtin.firstCells, loadCells, loadCellsFrom]) .nil rfl (by simp)
        simpa using this
      · simp at h
end
end Go.PE
namespace Go.PE
def EOp.isWrite : EOp → Bool
  | .store .. | .mapUpd .. | .append .. | .copy .. | .clear .. => true
  | _ => false
section
variable {P : Program} {R : Ren}
theorem copy_ok {ats : Array TypeId} {t el : TypeId} (hat : ats[0]? = some t) (ht : P.underlying t = some (.slice el)) {es : Nat} (hn : sizeT P el = some es) {d x : V} {d' x' : Value} (hd : VR R d d') (hx : VR R x x')
    {H H' : Heap} {v : V} (h : copyE es d x H = some (v, H')) {w : World} (hrel : Rel R (H[·]?) w) (ty : TypeId) :
    ∃ v' w' R', (Builtin.copy_ ats ty #[d', x']).run P w = .ok v' w' ∧ StepR R w R' w' ∧ Rel R' (H'[·]?) w' ∧ VR R' v v' ∧ StepH R H R' H' := by
  unfold copyE at h
  split at h
  · simp at h
  rename_i k hk
  have hk' := lenOf_ok (P := P) hx hk w
  have run : ∀ (base : Option Addr) (len c : Nat) (xs : Array Value) (w' : World), (Builtin.firstCells es (Nat.min k len) x').run P w = .ok xs w → (match base with | some a => storeCells a xs.toList | none => pure () : Sem Unit).run P w = .ok () w' →
      (Builtin.copy_ ats ty #[.slice base len c, x']).run P w = .ok (goInt (Nat.min k len)) w' := by
    intro base len c xs w' h1 h2
    simp only [Builtin.copy_, hat, List.getElem?_toArray, List.getElem?_cons_zero, List.getElem?_cons_succ, Sem.run_bind, run_underlying ht, Result.andThen_ok, hk', run_sizeT hn, h1]
    cases base with
    | none =>
      simp only [Sem.run_pure, Result.ok.injEq, true_and] at h2
      subst h2; rfl
    | some a =>
      simp only at h2
      simp only [Sem.run_bind, h2, Result.andThen_ok, Sem.run_pure]
  have fc0 : ∀ n, n = 0 → ∃ xs : Array Value, (Builtin.firstCells es n x').run P w = .ok xs w ∧ xs.toList = [] := by
    rintro n rfl
    rcases lenE_ok hx hk with ⟨s, rfl, rfl, rfl⟩ | ⟨q, c, rfl⟩
    · refine ⟨_, rfl, ?_⟩
      have hd0 : (s.extract 0 0).data.toList = [] := by rw [← subStr_eq]; simp [subStr]
      rw [Array.toList_map, hd0]; rfl
    · cases q with
      | none => exact ⟨#[], rfl, rfl⟩
      | some q => exact ⟨#[], by simp [Builtin.firstCells, loadCells, loadCellsFrom], rfl⟩
  have zero : ∀ (base : Option Addr) (len c : Nat), Nat.min k len = 0 → (Builtin.copy_ ats ty #[.slice base len c, x']).run P w = .ok (goInt 0) w := by
    intro base len c h0
    obtain ⟨xs, h1, h2⟩ := fc0 (Nat.min k len) h0
    have := run base len c xs w h1 (by rw [h2]; cases base <;> rfl)
    rw [h0] at this
    exact this
  cases hd <;> (try (simp only [reduceCtorEq] at h; done))
  · rename_i b v0 off len es' c cap L a1 a2 a3 a4 a5 a6
    simp only at h
    split at h
    · rename_i xs hxs
      split at h
      · rename_i hc
        obtain ⟨rfl, hxl⟩ := hc
        split at h
        · rename_i h0
          simp only [Option.some.injEq, Prod.mk.injEq] at h
          obtain ⟨rfl, rfl⟩ := h
          exact ⟨_, w, R, zero _ _ _ h0, .refl R w, hrel, .int _ _, .refl R H⟩
        · rw [Option.map_eq_some_iff] at h
          obtain ⟨H1, hw1, h⟩ := h
          simp only [Prod.mk.injEq] at h
          obtain ⟨rfl, rfl⟩ := h
          obtain ⟨xs', hfx, hrx⟩ := firstCells_ok (P := P) hx hxs hrel
          have hmul : min k len * es ≤ len * es := Nat.mul_le_mul_right _ (by omega)
          obtain ⟨w', h1, h2, h3⟩ := hrel.write (P := P) a1 a2 (by omega) hrx hw1
          exact ⟨_, w', R, run _ _ _ xs' w' hfx h1, h2, h3, .int _ _, writeCells_step hw1 (.inl ⟨v0, L, a1⟩)⟩
      · simp at h
    · simp at h
  · rename_i b v0 off es' r o cap L a1 a2 a3 a4
    simp only at h
    split at h
    · split at h
      · rw [if_pos (by omega)] at h
        simp only [Option.some.injEq, Prod.mk.injEq] at h
        obtain ⟨rfl, rfl⟩ := h
        exact ⟨_, w, R, zero _ _ _ (Nat.min_zero k), .refl R w, hrel, .int _ _, .refl R H⟩
      · simp at h
    · simp at h
  · simp only [Option.some.injEq, Prod.mk.injEq] at h
    obtain ⟨rfl, rfl⟩ := h
    exact ⟨_, w, R, zero _ _ _ (Nat.min_zero k), .refl R w, hrel, .int _ _, .refl R H⟩
  · simp only [Option.some.injEq, Prod.mk.injEq] at h
    obtain ⟨rfl, rfl⟩ := h
    exact ⟨_, w, R, zero _ _ _ (Nat.min_zero k), .refl R w, hrel, .int _ _, .refl R H⟩
theorem zeroCells_ok {z : List V} {zs : Array Value} (h : VRL R z zs.toList) (n : Nat) : VRL R (repeatL z n) (Builtin.zeroCells zs n).toList := repeat_ok h n
theorem clear_ok {t el : TypeId} (ht : P.underlying t = some (.slice el)) {es : Nat} {z : List V} (hz : zeroT P el = some z) {d : V} {d' : Value} (hd : VR R d d')
    {H H' : Heap} {v : V} (h : clearE z es d H = some (v, H')) {w : World} (hrel : Rel R (H[·]?) w) (ty : TypeId) :
    ∃ v' w' R', (Builtin.clear_ #[t] ty #[d']).run P w = .ok v' w' ∧ StepR R w R' w' ∧ Rel R' (H'[·]?) w' ∧ VR R' v v' ∧ StepH R H R' H' := by
  obtain ⟨i, zv, hi, hzv, hrz⟩ := zeroT_ok (R := R) hz
  have run0 : ∀ q c, (Builtin.clear_ #[t] ty #[.slice q 0 c]).run P w = .ok (.tuple #[]) w := by
    intro q c
    cases q <;> simp [Builtin.clear_, run_underlying ht]
  have runn : ∀ q, (Builtin.clear_ #[t] ty #[.slice none q 0]).run P w = .ok (.tuple #[]) w := by
    intro q
    simp [Builtin.clear_, run_underlying ht]
  cases hd <;> (try (simp only [clearE, reduceCtorEq] at h; done))
  · rename_i b v0 off len es' c cap L a1 a2 a3 a4 a5 a6
    cases len with
    | zero =>
      simp only [clearE, Option.some.injEq, Prod.mk.injEq] at h
      obtain ⟨rfl, rfl⟩ := h
      exact ⟨_, w, R, run0 _ _, .refl R w, hrel, .tup .nil, .refl R H⟩
    | succ len =>
      simp only [clearE] at h
      split at h
      · rename_i hc
        obtain ⟨rfl, hzl⟩ := hc
        rw [Option.map_eq_some_iff] at h
        obtain ⟨H1, hw1, h⟩ := h
        simp only [Prod.mk.injEq] at h
        obtain ⟨rfl, rfl⟩ := h
        have hrep := zeroCells_ok hrz (len + 1)
        obtain ⟨w', h1, h2, h3⟩ := hrel.write (P := P) a1 a2 (by rw [length_repeatL, hzl]; exact a3) hrep hw1
        refine ⟨_, w', R, ?_, h2, h3, .tup .nil, writeCells_step hw1 (.inl ⟨v0, L, a1⟩)⟩
        simp [Builtin.clear_, run_underlying ht, run_zero hi hzv, h1]
      · simp at h
  · simp only [clearE, Option.some.injEq, Prod.mk.injEq] at h
    obtain ⟨rfl, rfl⟩ := h
    exact ⟨_, w, R, run0 _ _, .refl R w, hrel, .tup .nil, .refl R H⟩
  · simp only [clearE, Option.some.injEq, Prod.mk.injEq] at h
    obtain ⟨rfl, rfl⟩ := h
    exact ⟨_, w, R, runn _, .refl R w, hrel, .tup .nil, .refl R H⟩
  · simp only [clearE, Option.some.injEq, Prod.mk.injEq] at h
    obtain ⟨rfl, rfl⟩ := h
    exact ⟨_, w, R, run0 _ _, .refl R w, hrel, .tup .nil, .refl R H⟩
end
end Go.PE
namespace Go.PE
section
variable {P : Program} {R : Ren}
def CallOK (P : Program) (f : FuncId) (F : List V → Heap → Option (V × Heap)) : Prop :=
  ∀ (R : Ren) (H H' : Heap) (w : World) (args : List V) (args' : Array Value) (v : V), F args H = some (v, H') → VRL R args args'.toList → Rel R (H[·]?) w →
    callable P f = true ∧ Calls P f args' w fun e w' => ∃ v' R', e = .returned v' ∧ StepR R w R' w' ∧ Rel R' (H'[·]?) w' ∧ VR R' v v' ∧ StepH R H R' H'
theorem run_callFunc {f : FuncId} (h : callable P f = true) (args : Array Value) (w : World) : (callFunc f args).run P w = .ok (.enter f args) w := by
  unfold callable at h
  split at h
  · rename_i fn hf
    simp only [Bool.and_eq_true, bne_iff_ne, ne_eq] at h
    have hb : fn.body.isNone = false := by
      cases hbd : fn.body with
      | none => simp [hbd] at h
      | some c => rfl
    have hn : (fn.name == "runtime.NumGoroutine") = false := by simpa using h.2
    simp only [callFunc, Sem.run_bind, run_program, Result.andThen_ok, hf]
    rw [if_neg (by simpa using h.2), hb]
    rfl
  · simp at h
theorem write_ok {o : Oper} {eo : EOp} (hc : cOp P o = some eo) (hp : eo.isWrite = true) {e : Env} {a : Act} (hE : VRL R e a.tmps.toList) {X : Ctx} {H H' : Heap} {v : V}
    (h : evalOp X e H eo = some (v, H')) {w : World} (hrel : Rel R (H[·]?) w) : MemRun P R w (execOp a.eval o) v (H'[·]?) (fun b => H.length ≤ b) ∧ H.length ≤ H'.length ∧ ∀ b, b < H.length → ¬ R.Dom b → H'[b]? = H[b]? := by
  obtain ⟨dst, op, ty, pos, after, guard⟩ := o
  cases op with
  | store t p x =>
    simp only [cOp] at hc
    split at hc
    · rename_i g n p1 x1 hs hp1 hx1
      simp only [Option.some.injEq] at hc; subst hc
      simp only [evalOp, Option.map_eq_some_iff, Prod.mk.injEq] at h
      obtain ⟨H1, h1, rfl, rfl⟩ := h
      obtain ⟨w', r1, r2, r3, r5⟩ := store_ok (P := P) hs (opd_ok hp1 hE) (opd_ok hx1 hE) h1 hrel
      exact ⟨⟨undef, w', R, .inr ⟨by simp [execOp, r1], rfl⟩, r2, r3, .tup .nil, fun b hb => .inl hb⟩, r5.len, r5.keep⟩
    · simp at hc
  | mapUpdate t m k x =>
    simp only [cOp] at hc
    split at hc
    · rename_i key el hu
      split at hc
      · rename_i k0 m1 k1 x1 hk0 hm1 hk1 hx1
        simp only [Option.some.injEq] at hc; subst hc
        simp only [evalOp, Option.map_eq_some_iff, Prod.mk.injEq] at h
        obtain ⟨H1, h1, rfl, rfl⟩ := h
        obtain ⟨w', r1, r2, r3, r5⟩ := mapUpd_ok (P := P) hu hk0 (opd_ok hm1 hE) (opd_ok hk1 hE) (opd_ok hx1 hE) h1 hrel
        exact ⟨⟨undef, w', R, .inr ⟨by simp [execOp, r1], rfl⟩, r2, r3, .tup .nil, fun b hb => .inl hb⟩, r5.len, r5.keep⟩
      · simp at hc
    · simp at hc
  | call c =>
    obtain ⟨callee, args, ats⟩ := c
    simp only [cOp] at hc
    cases callee with
    | invoke r m => simp at hc
    | value f =>
      cases f <;> simp only at hc
      case func f =>
        rw [Option.map_eq_some_iff] at hc
        obtain ⟨y, hy, rfl⟩ := hc
        simp [EOp.isWrite] at hp
      all_goals
        split at hc
        · simp only [Option.some.injEq] at hc; subst hc
          simp [EOp.isWrite] at hp
        · simp at hc
    | builtin b =>
      simp only at hc
      have harr : ∀ {α : Type} {l : Array α} {m : List α}, l.toList = m → l = m.toArray := by
        intro α l m h; rw [← h]
      have lift : ∀ (s : Sem Value), (∀ (cs : Array Bool), (builtin b ats ty cs (args.map a.eval)).run P w = (s.run P w).andThen fun x w' => .ok (.value x) w') →
          (∃ v' w' R', s.run P w = .ok v' w' ∧ StepR R w R' w' ∧ Rel R' (H'[·]?) w' ∧ VR R' v v' ∧ StepH R H R' H') → MemRun P R w (execOp a.eval ⟨dst, .call ⟨.builtin b, args, ats⟩, ty, pos, after, guard⟩) v (H'[·]?) (fun b => H.length ≤ b) ∧
            H.length ≤ H'.length ∧ ∀ b, b < H.length → ¬ R.Dom b → H'[b]? = H[b]? := by
        rintro s hs ⟨v', w', R', r1, r2, r3, r4, r5⟩
        refine ⟨⟨v', w', R', .inl ?_, r2, r3, r4, r5.dom⟩, r5.len, r5.keep⟩
        rw [call_builtin, hs, r1]
        rfl
      unfold cBuiltin at hc
      split at hc
      · -- len
        split at hc
        · rw [Option.map_eq_some_iff] at hc
          obtain ⟨y, hy, rfl⟩ := hc
          simp [EOp.isWrite] at hp
        · rw [Option.map_eq_some_iff] at hc
          obtain ⟨y, hy, rfl⟩ := hc
          simp [EOp.isWrite] at hp
        · simp only [Option.some.injEq] at hc; subst hc
          simp [EOp.isWrite] at hp
        · split at hc
          · simp only [Option.some.injEq] at hc; subst hc
            simp [EOp.isWrite] at hp
          · simp at hc
        · simp at hc
      · -- append
        rename_i t u s x ht hx
        have hats := harr ht
        have hargs := harr hx
        subst hats; subst hargs
        split at hc
        · rename_i el n d hel hud
          obtain ⟨hu, hn⟩ := elemSlice_ok hel
          split at hc
          · simp at hc
          · rename_i hint
            split at hc
            · rename_i bs z s1 x1 hbs hz hs1 hx1
              split at hc
              · rename_i hcond
                simp only [Bool.and_eq_true, decide_eq_true_eq, beq_iff_eq] at hcond
                simp only [Option.some.injEq] at hc; subst hc
                simp only [evalOp] at h
                refine lift (Builtin.append_ #[t, u] ty #[a.eval s, a.eval x]) (fun cs => by simp [builtin]) ?_
                exact append_ok hu hud (by simpa using hint) hn hbs hz hcond.2 hcond.1.2 (opd_ok hs1 hE) (opd_ok hx1 hE) h hrel ty
              · simp at hc
            · simp at hc
        · simp at hc
      · -- copy
        rename_i d x ht hx
        have hargs := harr hx
        subst hargs
        split at hc
        · rename_i t hat
          split at hc
          · rename_i el n d1 x1 hel hd1 hx1
            obtain ⟨hu, hn⟩ := elemSlice_ok hel
            split at hc
            · simp only [Option.some.injEq] at hc; subst hc
              simp only [evalOp] at h
              refine lift (Builtin.copy_ ats ty #[a.eval d, a.eval x]) (fun cs => by simp [builtin]) ?_
              exact copy_ok hat hu hn (opd_ok hd1 hE) (opd_ok hx1 hE) h hrel ty
            · simp at hc
          · simp at hc
        · simp at hc
      · -- clear
        rename_i t d ht hx
        have hats := harr ht
        have hargs := harr hx
        subst hats; subst hargs
        split at hc
        · rename_i el n hel
          obtain ⟨hu, hn⟩ := elemSlice_ok hel
          split at hc
          · rename_i z d1 hz hd1
            split at hc
            · simp only [Option.some.injEq] at hc; subst hc
              simp only [evalOp] at h
              refine lift (Builtin.clear_ #[t] ty #[a.eval d]) (fun cs => by simp [builtin]) ?_
              exact clear_ok hu hz (opd_ok hd1 hE) h hrel ty
            · simp at hc
          · simp at hc
        · simp at hc
      · split at hc
        · simp only [Option.some.injEq] at hc; subst hc
          simp [EOp.isWrite] at hp
        · simp at hc
      · split at hc
        · simp only [Option.some.injEq] at hc; subst hc
          simp [EOp.isWrite] at hp
        · simp at hc
      · simp at hc
  | makeFunc fn first captured =>
    cases fn <;> simp only [cOp, reduceCtorEq] at hc
    split at hc
    · simp only [Option.some.injEq] at hc; subst hc
      simp [EOp.isWrite] at hp
    · simp at hc
  | slice t x lo hi mx =>
    exfalso
    have : eo.isWrite = false := by
      cases mx <;> simp only [cOp, reduceCtorEq] at hc
      repeat' split at hc
      all_goals first
        | (simp only [reduceCtorEq] at hc; done)
        | (simp only [Option.some.injEq] at hc; subst hc; rfl)
    rw [hp] at this
    simp at this
  | makeMap t r =>
    exfalso
    have : eo.isWrite = false := by
      cases r <;> simp only [cOp, reduceCtorEq] at hc
      repeat' split at hc
      all_goals first
        | (simp only [reduceCtorEq] at hc; done)
        | (simp only [Option.some.injEq] at hc; subst hc; rfl)
    rw [hp] at this
    simp at this
  | _ =>
    exfalso
    have : eo.isWrite = false := by
      first
        | (simp only [cOp, reduceCtorEq] at hc; done)
        | (simp only [cOp, Option.map_eq_some_iff] at hc; obtain ⟨y, hy, rfl⟩ := hc; rfl)
        | (simp only [cOp, Option.bind_eq_bind, Option.bind_eq_some_iff, Option.some.injEq] at hc; obtain ⟨c1, hc1, x1, hx1, y1, hy1, rfl⟩ := hc; rfl)
        | (simp only [cOp, cBin, cEq] at hc
           repeat' split at hc
           all_goals first
             | (simp only [reduceCtorEq] at hc; done)
             | (rw [Option.map_eq_some_iff] at hc; obtain ⟨y, hy, rfl⟩ := hc; rfl)
             | (simp only [Option.some.injEq] at hc; subst hc; rfl))
        | (simp only [cOp] at hc
           repeat' split at hc
           all_goals first
             | (simp only [reduceCtorEq] at hc; done)
             | (rw [Option.map_eq_some_iff] at hc; obtain ⟨y, hy, rfl⟩ := hc; rfl)
             | (simp only [Option.some.injEq] at hc; subst hc; rfl))
    rw [hp] at this
    simp at this
def EOp.isCall : EOp → Bool
  | .call .. | .callv .. => true
  | _ => false
theorem kind_of (eo : EOp) : eo.isPure = true ∨ eo.isAlloc = true ∨ readsMem eo = true ∨ eo.isWrite = true ∨ eo.isCall = true ∨ eo = .fail := by
  cases eo <;> simp [EOp.isPure, EOp.isAlloc, readsMem, EOp.isWrite, EOp.isCall]
theorem call_ok {o : Oper} {eo : EOp} (hc : cOp P o = some eo) (hp : eo.isCall = true) {e : Env} {a : Act} (hE : VRL R e a.tmps.toList) {X : Ctx} (hX : ∀ f, CallOK P f (X f)) {H H' : Heap} {v : V}
    (h : evalOp X e H eo = some (v, H')) {w : World} (hrel : Rel R (H[·]?) w) :
    ∃ f args', (execOp a.eval o).run P w = .ok (.enter f args') w ∧ Calls P f args' w fun e w' => ∃ v' R', e = .returned v' ∧ StepR R w R' w' ∧ Rel R' (H'[·]?) w' ∧ VR R' v v' ∧ StepH R H R' H' := by
  obtain ⟨dst, op, ty, pos, after, guard⟩ := o
  have hcall : ∃ c, op = .call c := by
    cases op with
    | call c => exact ⟨c, rfl⟩
    | _ =>
      exfalso
      have : eo.isCall = false := by
        first
          | (simp only [cOp, reduceCtorEq] at hc; done)
          | (simp only [cOp, Option.map_eq_some_iff] at hc; obtain ⟨y, hy, rfl⟩ := hc; rfl)
          | (simp only [cOp, Option.bind_eq_bind, Option.bind_eq_some_iff, Option.some.injEq] at hc; obtain ⟨c1, hc1, x1, hx1, y1, hy1, rfl⟩ := hc; rfl)
          | (simp only [cOp, cBin, cEq] at hc
             repeat' split at hc
             all_goals first
               | (simp only [reduceCtorEq] at hc; done)
               | (rw [Option.map_eq_some_iff] at hc; obtain ⟨y, hy, rfl⟩ := hc; rfl)
               | (simp only [Option.some.injEq] at hc; subst hc; rfl))
          | (rename_i fn _ _; cases fn <;> simp only [cOp, reduceCtorEq] at hc
             repeat' split at hc
             all_goals first
               | (simp only [reduceCtorEq] at hc; done)
               | (simp only [Option.some.injEq] at hc; subst hc; rfl))
          | (rename_i r; cases r <;> simp only [cOp, reduceCtorEq] at hc
             repeat' split at hc
             all_goals first
               | (simp only [reduceCtorEq] at hc; done)
               | (simp only [Option.some.injEq] at hc; subst hc; rfl))
          | (simp only [cOp] at hc
             repeat' split at hc
             all_goals first
               | (simp only [reduceCtorEq] at hc; done)
               | (rw [Option.map_eq_some_iff] at hc; obtain ⟨y, hy, rfl⟩ := hc; rfl)
               | (simp only [Option.some.injEq] at hc; subst hc; rfl))
      rw [hp] at this
      simp at this
  obtain ⟨c, rfl⟩ := hcall
  obtain ⟨callee, args, ats⟩ := c
  simp only [cOp] at hc
  cases callee with
  | invoke r m => simp at hc
  | builtin b =>
    exfalso
    simp only at hc
    have : eo.isCall = false := by
      unfold cBuiltin at hc
      repeat' split at hc
      all_goals first
        | (simp only [reduceCtorEq] at hc; done)
        | (rw [Option.map_eq_some_iff] at hc; obtain ⟨y, hy, rfl⟩ := hc; rfl)
        | (simp only [Option.some.injEq] at hc; subst hc; rfl)
    rw [hp] at this
    simp at this
  | value f =>
    have dyn : ∀ (x : Operand) (fo : Opd) (as : List Opd), cOpd x = some fo → cOpds args.toList = some as → evalOp X e H (.callv fo as) = some (v, H') →
        ∃ f args', (execOp a.eval ⟨dst, .call ⟨.value x, args, ats⟩, ty, pos, after, guard⟩).run P w = .ok (.enter f args') w ∧ Calls P f args' w fun e w' => ∃ v' R', e = .returned v' ∧ StepR R w R' w' ∧ Rel R' (H'[·]?) w' ∧ VR R' v v' ∧ StepH R H R' H' := by
      intro x fo as hx has h
      have rx := opd_ok hx hE
      have ras := opds_ok has hE
      simp only [evalOp] at h
      split at h
      · rename_i f fa fc hfv
        rw [hfv] at rx
        cases hcv : a.eval x <;> rw [hcv] at rx <;> cases rx
        rename_i fa' fc' h1 h2
        obtain ⟨g1, g2⟩ := hX f R H H' w _ (fa' ++ args.map a.eval ++ fc') v h (by simpa using (h1.append ras).append h2) hrel
        refine ⟨f, _, ?_, g2⟩
        simp only [execOp, resolve, Deferred.ofValue, hcv, Sem.run_bind, Sem.run_pure, Result.andThen_ok, invoke]
        exact run_callFunc g1 _ w
      · simp at h
    cases f with
    | func f =>
      simp only [Option.map_eq_some_iff] at hc
      obtain ⟨as, has, rfl⟩ := hc
      simp only [evalOp] at h
      obtain ⟨g1, g2⟩ := hX f R H H' w _ (args.map a.eval) v h (by simpa using opds_ok has hE) hrel
      refine ⟨f, _, ?_, g2⟩
      simp only [execOp, resolve, Act.eval, Deferred.ofValue, Sem.run_bind, Sem.run_pure, Result.andThen_ok, invoke, Array.empty_append, Array.append_empty]
      exact run_callFunc g1 _ w
    | tmp t =>
      simp only at hc
      split at hc
      · rename_i fo as hfo has
        simp only [Option.some.injEq] at hc; subst hc
        exact dyn _ fo as hfo has h
      · simp at hc
    | const t =>
      simp only at hc
      split at hc
      · rename_i fo as hfo has
        simp only [Option.some.injEq] at hc; subst hc
        exact dyn _ fo as hfo has h
      · simp at hc
    | global t =>
      simp only at hc
      split at hc
      · rename_i fo as hfo has
        simp only [Option.some.injEq] at hc; subst hc
        exact dyn _ fo as hfo has h
      · simp at hc
theorem op_ok {o : Oper} {eo : EOp} (hc : cOp P o = some eo) {e : Env} {a : Act} (hE : VRL R e a.tmps.toList) {X : Ctx} (hX : ∀ f, CallOK P f (X f)) {H H' : Heap} {v : V}
    (h : evalOp X e H eo = some (v, H')) {w : World} (hrel : Rel R (H[·]?) w) {next : Act → World → Prop} {Q : Exit → Act → World → Prop}
    (k : ∀ v' w' R', StepR R w R' w' → Rel R' (H'[·]?) w' → VR R' v v' → StepH R H R' H' → next (a.put o.dst v') w') : o.wp P a w next Q := by
  have mem : MemRun P R w (execOp a.eval o) v (H'[·]?) (fun b => H.length ≤ b) → H.length ≤ H'.length → (∀ b, b < H.length → ¬ R.Dom b → H'[b]? = H[b]?) → o.wp P a w next Q := by
    rintro ⟨v', w', R', hr | ⟨hr, rfl⟩, r2, r3, r4, r5⟩ hl hk
    · unfold Oper.wp
      rw [hr]
      exact k v' w' R' r2 r3 r4 ⟨hl, r5, hk⟩
    · unfold Oper.wp
      rw [hr]
      exact k undef w' R' r2 r3 r4 ⟨hl, r5, hk⟩
  rcases kind_of eo with hk | hk | hk | hk | hk | hk
  · obtain ⟨rfl, v', h1, h2⟩ := pure_ok hc hk hE h
    exact mem ⟨v', w, R, .inl (h1 w), .refl R w, hrel, h2, fun b hb => .inl hb⟩ (Nat.le_refl _) (fun _ _ _ => rfl)
  · obtain ⟨h0, h1⟩ := alloc_ok hc hk hE h
    have hnone := hrel.none_of_get (b := H.length) (by simp)
    have hm := h1 (g := (H[·]?)) (g' := (H'[·]?)) (w := w) hrel hnone.1 hnone.2 (by
        rintro bx rfl
        simp) (by
        intro q hq hdom
        have hql : q < H.length := by
          rcases hdom with ⟨v, L, hv⟩ | ⟨r, hr⟩
          · obtain ⟨l, ver, mn, c, t, hg, _⟩ := hrel.loc q v L hv
            exact (List.getElem?_eq_some_iff.1 hg).1
          · obtain ⟨es0, c0, es1, hg, _⟩ := hrel.mp q r hr
            exact (List.getElem?_eq_some_iff.1 hg).1
        rcases h0 with rfl | ⟨bx, rfl⟩
        · rfl
        · simp [List.getElem?_append_left hql])
    obtain ⟨v', w', R', r1, r2, r3, r4, r5⟩ := hm
    refine mem ⟨v', w', R', r1, r2, r3, r4, fun b hb => (r5 b hb).imp id fun e => Nat.le_of_eq e.1.symm⟩ ?_ ?_
    · rcases h0 with rfl | ⟨bx, rfl⟩
      · exact Nat.le_refl _
      · simp
    · intro b hb _
      rcases h0 with rfl | ⟨bx, rfl⟩
      · rfl
      · rw [List.getElem?_append_left hb]
  · obtain ⟨rfl, h1⟩ := read_ok hc hk hE h
    obtain ⟨v', h2, h3⟩ := h1 hrel
    exact mem ⟨v', w, R, .inl h2, .refl R w, hrel, h3, fun b hb => .inl hb⟩ (Nat.le_refl _) (fun _ _ _ => rfl)
  · obtain ⟨h1, h2, h3⟩ := write_ok hc hk hE h hrel
    exact mem h1 h2 h3
  · obtain ⟨f, args', h1, h2⟩ := call_ok hc hk hE hX h hrel
    unfold Oper.wp
    rw [h1, Oper.upon_enter]
    refine h2.mono ?_
    rintro e w' ⟨v', R', rfl, r2, r3, r4, r5⟩
    exact k v' w' R' r2 r3 r4 r5
  · subst hk
    simp [evalOp] at h
end
end Go.PE
namespace Go.PE
section
variable {P : Program} {R : Ren}
theorem put_ok {e : Env} {a : Act} (hE : VRL R e a.tmps.toList) (d : Option Tmp) {v : V} {v' : Value} (hv : VR R v v') : VRL R (e.put d v) (a.put d v').tmps.toList := by
  cases d with
  | none => exact hE
  | some d =>
    simp only [Env.put, Act.put, Array.toList_setIfInBounds]
    exact hE.set d hv
theorem put_defers (a : Act) (d : Option Tmp) (v : Value) : (a.put d v).defers = a.defers := by
  cases d <;> rfl
theorem guard_ok {ops : Array Oper} {o : Oper} {g : Option (Nat × Bool)} (h : cGuard ops o = some g) {e : Env} {a : Act} (hE : VRL R e a.tmps.toList) (d : Option Nat) (op : EOp) :
    Region.wanted o (yielded ops a.tmps) = EOper.wanted { dst := d, op := op, guard := g } e := by
  unfold cGuard at h
  unfold Region.wanted EOper.wanted
  split at h
  · rename_i hg
    simp only [Option.some.injEq] at h; subst h
    rw [hg]
  · rename_i j want hg
    split at h
    · rename_i t ht
      simp only [Option.some.injEq] at h; subst h
      rw [hg]
      simp only [yielded, ht, Option.bind_some]
      have hr := hE.getD t
      cases hx : a.tmps[t]? with
      | none =>
        have : a.tmps.toList.getD t undef = undef := by
          rw [List.getD_eq_getElem?_getD, Array.getElem?_toList, hx]; rfl
        rw [this] at hr
        cases hv : e.getD t V.undef <;> rw [hv] at hr <;> cases hr <;> first | rfl | (rename_i h; simp [topOK, undef] at h)
      | some x =>
        have : a.tmps.toList.getD t undef = x := by
          rw [List.getD_eq_getElem?_getD, Array.getElem?_toList, hx]; rfl
        rw [this] at hr
        cases hv : e.getD t V.undef <;> rw [hv] at hr <;> cases hr <;> first | rfl | (rename_i h; cases x <;> simp [topOK] at h ⊢; done) | simp
    · simp at h
theorem oper_ok {ops : Array Oper} {o : Oper} {e : Env} {a : Act} (hE : VRL R e a.tmps.toList) {X : Ctx} (hX : ∀ f, CallOK P f (X f)) {H H' : Heap} {e' : Env}
    (h : evalOper X (cOper P ops o) e H = some (e', H')) {w : World} (hrel : Rel R (H[·]?) w) {next : Act → World → Prop} {Q : Exit → Act → World → Prop}
    (k : ∀ a' w' R', StepR R w R' w' → Rel R' (H'[·]?) w' → VRL R' e' a'.tmps.toList → a'.defers = a.defers → StepH R H R' H' → next a' w') :
    if Region.wanted o (yielded ops a.tmps) then o.wp P a w next Q ∨ (o.asks P a w ∧ LetsOut Q) else next (a.put o.dst undef) w := by
  unfold cOper at h
  split at h
  · rename_i g hg
    rw [guard_ok hg hE o.dst ((cOp P o).getD .fail)]
    unfold evalOper at h
    split at h
    · rename_i hw
      rw [if_pos hw]
      rw [Option.map_eq_some_iff] at h
      obtain ⟨⟨v, H1⟩, h1, h2⟩ := h
      simp only [Prod.mk.injEq] at h2
      obtain ⟨rfl, rfl⟩ := h2
      cases hc : cOp P o with
      | none => rw [hc] at h1; simp [evalOp] at h1
      | some eo =>
        rw [hc] at h1
        refine .inl (op_ok hc hE hX h1 hrel fun v' w' R' r1 r2 r3 r5 => ?_)
        refine k _ w' R' r1 r2 ?_ (put_defers _ _ _) r5
        exact put_ok (hE.mono r1.le) _ r3
    · rename_i hw
      rw [if_neg hw]
      simp only [Option.some.injEq, Prod.mk.injEq] at h
      obtain ⟨rfl, rfl⟩ := h
      exact k _ w R (.refl R w) hrel (put_ok hE _ (.tup .nil)) (put_defers _ _ _) (.refl R H)
  · simp [evalOper, EOper.wanted, evalOp] at h
theorem ops_ok {ops : Array Oper} {X : Ctx} (hX : ∀ f, CallOK P f (X f)) {Q : Exit → Act → World → Prop} : ∀ (l : List Oper) {R : Ren} {e e' : Env} {H H' : Heap} {a : Act} {w : World},
    evalOps X (l.map (cOper P ops)) e H = some (e', H') → VRL R e a.tmps.toList → Rel R (H[·]?) w →
    (∀ a' w' R', StepR R w R' w' → Rel R' (H'[·]?) w' → VRL R' e' a'.tmps.toList → a'.defers = a.defers → StepH R H R' H' → Q .normal a' w') → wpList P ops Q l a w
  | [], R, e, e', H, H', a, w, h, hE, hrel, k => by
    simp only [List.map_nil, evalOps, Option.some.injEq, Prod.mk.injEq] at h
    obtain ⟨rfl, rfl⟩ := h
    exact k a w R (.refl R w) hrel hE rfl (.refl R H)
  | o :: l, R, e, e', H, H', a, w, h, hE, hrel, k => by
    simp only [List.map_cons, evalOps, Option.bind_eq_some_iff] at h
    obtain ⟨⟨e1, H1⟩, h1, h2⟩ := h
    simp only [wpList]
    refine oper_ok hE hX h1 hrel fun a' w' R' r1 r2 r3 r4 r5 => ?_
    exact ops_ok hX l h2 r3 r2 fun a'' w'' R'' s1 s2 s3 s4 s5 => k a'' w'' R'' (r1.trans s1) s2 s3 (s4.trans r4) (r5.trans s5)
def toExit : Ex → Exit
  | .normal => .normal
  | .exit id => .exit id
  | .ret => .ret
def CodeOK (P : Program) (c : Code) (f : Env → Heap → Option (Ex × Env × Heap)) : Prop :=
  ∀ (e e' : Env) (H H' : Heap) (ex : Ex), f e H = some (ex, e', H') → ∀ (R : Ren) (a : Act) (w : World), VRL R e a.tmps.toList → Rel R (H[·]?) w → ∀ (Q : Exit → Act → World → Prop),
    (∀ a' w' R', StepR R w R' w' → Rel R' (H'[·]?) w' → VRL R' e' a'.tmps.toList → a'.defers = a.defers → StepH R H R' H' → Q (toExit ex) a' w') → c.wp P Q a w
theorem loop_ok {c : Code} {f : Env → Heap → Option (Ex × Env × Heap)} (hf : CodeOK P c f) (n : Nat) : CodeOK P (.loop c) (loopE f n) := by
  intro e e' H H' ex h R a w hE hrel Q k
  refine wp_loop_rounds n ?_
  induction n generalizing e H R a w with
  | zero => simp [loopE] at h
  | succ n ih =>
    rw [rounds_succ]
    simp only [loopE] at h
    split at h
    · rename_i e1 H1 h1
      refine hf e e1 H H1 .normal h1 R a w hE hrel _ fun a' w' R' r1 r2 r3 r4 r5 => ?_
      exact ih e1 H1 h R' a' w' r3 r2 fun a'' w'' R'' s1 s2 s3 s4 s5 => k a'' w'' R'' (r1.trans s1) s2 s3 (s4.trans r4) (r5.trans s5)
    · rename_i hn
      refine hf e e' H H' ex h R a w hE hrel _ fun a' w' R' r1 r2 r3 r4 r5 => ?_
      have := k a' w' R' r1 r2 r3 r4 r5
      cases ex with
      | normal => exact absurd h (hn e' H')
      | exit id => exact this
      | ret => exact this
def DrawOK (P : Program) (X : Ctx) : Prop := ∀ (id : Nat) (ops : Array Oper), CodeOK P (.region id ops true) fun e H => evalCode X 0 (cRegion P ops true) e H
theorem code_ok {X : Ctx} (hX : ∀ f, CallOK P f (X f)) (hD : DrawOK P X) (fuel : Nat) : ∀ (c : Code), CodeOK P c (evalCode X fuel (cCode P c))
  | .skip => by
    intro e e' H H' ex h R a w hE hrel Q k
    simp only [cCode, evalCode, Option.some.injEq, Prod.mk.injEq] at h
    obtain ⟨rfl, rfl, rfl⟩ := h
    exact wp_skip (k a w R (.refl R w) hrel hE rfl (.refl R H))
  | .region id ops draw => by
    intro e e' H H' ex h R a w hE hrel Q k
    cases draw with
    | true =>
      refine hD id ops e e' H H' ex ?_ R a w hE hrel Q k
      simp only [cCode] at h
      show evalCode X 0 (cRegion P ops true) e H = _
      rw [← h]
      unfold cRegion
      simp only [Bool.not_true, Bool.false_eq_true, if_false]
      split <;> rfl
    | false =>
      simp only [cCode, cRegion, Bool.not_false, if_true, evalCode, Option.map_eq_some_iff, Prod.mk.injEq] at h
      obtain ⟨⟨e1, H1⟩, h1, rfl, rfl, rfl⟩ := h
      exact wp_region_list (ops_ok hX ops.toList h1 hE hrel k)
  | .seq x y => by
    intro e e' H H' ex h R a w hE hrel Q k
    simp only [cCode, evalCode] at h
    refine wp_seq ?_
    split at h
    · rename_i e1 H1 h1
      refine code_ok hX hD fuel x e e1 H H1 .normal h1 R a w hE hrel _ fun a' w' R' r1 r2 r3 r4 r5 => ?_
      exact code_ok hX hD fuel y e1 e' H1 H' ex h R' a' w' r3 r2 Q fun a'' w'' R'' s1 s2 s3 s4 s5 => k a'' w'' R'' (r1.trans s1) s2 s3 (s4.trans r4) (r5.trans s5)
    · rename_i hn
      refine code_ok hX hD fuel x e e' H H' ex h R a w hE hrel _ fun a' w' R' r1 r2 r3 r4 r5 => ?_
      have := k a' w' R' r1 r2 r3 r4 r5
      cases ex with
      | normal => exact absurd h (hn e' H')
      | exit id => exact this
      | ret => exact this
  | .cond c x y => by
    intro e e' H H' ex h R a w hE hrel Q k
    simp only [cCode] at h
    split at h
    · rename_i c1 hc
      have rc := opd_ok hc hE
      simp only [evalCode] at h
      split at h
      · rename_i hv
        rw [hv] at rc
        cases hcv : a.eval c <;> rw [hcv] at rc <;> cases rc
        exact wp_cond_true hcv (code_ok hX hD fuel x e e' H H' ex h R a w hE hrel Q k)
      · rename_i hv
        rw [hv] at rc
        cases hcv : a.eval c <;> rw [hcv] at rc <;> cases rc
        exact wp_cond_false hcv (code_ok hX hD fuel y e e' H H' ex h R a w hE hrel Q k)
      · simp at h
    · simp [evalCode] at h
  | .block id c => by
    intro e e' H H' ex h R a w hE hrel Q k
    simp only [cCode, evalCode] at h
    refine wp_block ?_
    split at h
    · rename_i i e1 H1 h1
      simp only [Option.some.injEq, Prod.mk.injEq] at h
      obtain ⟨rfl, rfl, rfl⟩ := h
      refine code_ok hX hD fuel c e e1 H H1 (.exit i) h1 R a w hE hrel _ fun a' w' R' r1 r2 r3 r4 r5 => ?_
      have := k a' w' R' r1 r2 r3 r4 r5
      simp only [toExit, Exit.inBlock]
      split
      · rename_i hi
        rw [if_pos hi] at this; exact this
      · rename_i hi
        rw [if_neg hi] at this; exact this
    · rename_i hn
      refine code_ok hX hD fuel c e e' H H' ex h R a w hE hrel _ fun a' w' R' r1 r2 r3 r4 r5 => ?_
      have := k a' w' R' r1 r2 r3 r4 r5
      cases ex with
      | normal => exact this
      | exit id => exact absurd h (hn id e' H')
      | ret => exact this
  | .loop c => by
    simp only [cCode]
    exact loop_ok (code_ok hX hD fuel c) fuel
  | .exit id => by
    intro e e' H H' ex h R a w hE hrel Q k
    simp only [cCode, evalCode, Option.some.injEq, Prod.mk.injEq] at h
    obtain ⟨rfl, rfl, rfl⟩ := h
    exact wp_exit (k a w R (.refl R w) hrel hE rfl (.refl R H))
  | .ret => by
    intro e e' H H' ex h R a w hE hrel Q k
    simp only [cCode, evalCode, Option.some.injEq, Prod.mk.injEq] at h
    obtain ⟨rfl, rfl, rfl⟩ := h
    exact wp_ret (k a w R (.refl R w) hrel hE rfl (.refl R H))
  | .rangeFunc .. => by
    intro e e' H H' ex h
    simp [cCode, evalCode] at h
  | .scope _ => by
    intro e e' H H' ex h
    simp [cCode, evalCode] at h
  | .label _ => by
    intro e e' H H' ex h
    simp [cCode, evalCode] at h
  | .goto _ => by
    intro e e' H H' ex h
    simp [cCode, evalCode] at h
  | .refuse _ => by
    intro e e' H H' ex h
    simp [cCode, evalCode] at h
end
end Go.PE
namespace Go.PE
section
variable {P : Program} {R : Ren}
def resF (tmps : Array Value) : ResultVar → Sem Value
  | .tmp t => pure (tmps.getD t undef)
  | .cell q t => do loadVar t (← asAddr (tmps.getD q undef))
theorem results_eq (fn : Func) (tmps : Array Value) : results fn tmps = (do
    let vs ← fn.results.mapM (resF tmps)
    pure (if h : vs.size = 1 then vs[0] else .tuple vs)) := by
  unfold results
  congr 2
theorem res_ok {rv : ResultVar} {er : ERes} (hc : cRes P rv = some er) {e : Env} {a : Act} (hE : VRL R e a.tmps.toList) {H : Heap} {v : V} (h : evalRes e H er = some v) {w : World} (hrel : Rel R (H[·]?) w) :
    ∃ v', (resF a.tmps rv).run P w = .ok v' w ∧ VR R v v' := by
  cases rv with
  | tmp t =>
    simp only [cRes, Option.some.injEq] at hc; subst hc
    simp only [evalRes, Option.some.injEq] at h; subst h
    refine ⟨_, rfl, ?_⟩
    have := hE.getD t
    simpa [List.getD_eq_getElem?_getD, Array.getD_eq_getD_getElem?] using this
  | cell q t =>
    simp only [cRes, Option.map_eq_some_iff] at hc
    obtain ⟨⟨g, n⟩, hs, rfl⟩ := hc
    simp only [evalRes] at h
    have hq : VR R (e.getD q V.undef) (a.tmps.getD q undef) := by
      have := hE.getD q
      simpa [List.getD_eq_getElem?_getD, Array.getD_eq_getD_getElem?] using this
    obtain ⟨v', h1, h2⟩ := load_ok (P := P) hs hq h hrel
    refine ⟨v', ?_, h2⟩
    unfold Instr.loadAt at h1
    simp only [Sem.run_bind] at h1
    simp only [resF, Sem.run_bind]
    generalize a.tmps.getD q undef = p at *
    generalize e.getD q V.undef = pv at *
    cases hq <;> first
      | (simp [loadE] at h; done)
      | (simp only [Instr.sureAddr, Sem.run_pure, Result.andThen_ok] at h1; simp only [asAddr, Sem.run_pure, Result.andThen_ok]; exact h1)
      | (simp [Instr.sureAddr] at h1)
theorem results_ok {e : Env} {a : Act} (hE : VRL R e a.tmps.toList) {H : Heap} {w : World} (hrel : Rel R (H[·]?) w) : ∀ {l : List ResultVar} {rs : List ERes} {vs : List V},
    l.mapM (cRes P) = some rs → rs.mapM (evalRes e H) = some vs → ∃ xs : List Value, VRL R vs xs ∧ (l.mapM (resF a.tmps)).run P w = .ok xs w
  | [], rs, vs, h, h' => by
    simp only [List.mapM_nil, Option.pure_def, Option.some.injEq] at h; subst h
    simp only [List.mapM_nil, Option.pure_def, Option.some.injEq] at h'; subst h'
    exact ⟨[], .nil, rfl⟩
  | rv :: l, rs, vs, h, h' => by
    simp only [List.mapM_cons, Option.bind_eq_bind, Option.bind_eq_some_iff, Option.pure_def, Option.some.injEq] at h
    obtain ⟨er, h1, ers, h2, rfl⟩ := h
    simp only [List.mapM_cons, Option.bind_eq_bind, Option.bind_eq_some_iff, Option.pure_def, Option.some.injEq] at h'
    obtain ⟨v, h3, vs', h4, rfl⟩ := h'
    obtain ⟨x, h5, h6⟩ := res_ok h1 hE h3 hrel
    obtain ⟨xs, h7, h8⟩ := results_ok hE hrel h2 h4
    refine ⟨x :: xs, .cons h6 h7, ?_⟩
    simp only [List.mapM_cons, Sem.run_bind, Sem.run_pure]
    rw [h5, Result.andThen_ok, h8, Result.andThen_ok]
theorem func_ok {n : FuncId} {fn : Func} {ef : EFunc} (hfn : P.funcs[n]? = some fn) (hc : cFunc P fn = some ef) (hcall : callable P n = true) {X : Ctx} (hX : ∀ f, CallOK P f (X f)) (hD : DrawOK P X) (fuel : Nat) :
    CallOK P n (evalFunc X fuel ef) := by
  intro R H H' w args args' v h hargs hrel
  refine ⟨hcall, ?_⟩
  unfold cFunc at hc
  split at hc
  · rename_i c rs hb hrs
    simp only [Option.some.injEq] at hc; subst hc
    unfold evalFunc at h
    split at h
    · rename_i hle
      dsimp only at h hle
      have hal := hargs.length
      simp only [Array.length_toList] at hal
      have hE : VRL R (args ++ List.replicate (fn.ntmps - args.length) V.undef) ({ tmps := args' ++ Array.replicate (fn.ntmps - args'.size) undef, defers := [] } : Act).tmps.toList := by
        simp only [Array.toList_append, Array.toList_replicate]
        rw [hal]
        exact hargs.append (VRL.replicate _ (.tup .nil))
      have fin : ∀ (ex : Ex) (e' : Env) (H1 : Heap), ex ≠ .exit 0 → (∀ i, ex ≠ .exit i) → evalCode X fuel (cCode P c) (args ++ List.replicate (fn.ntmps - args.length) V.undef) H = some (ex, e', H1) →
          (resultsE rs e' H1).map (fun v => (v, H1)) = some (v, H') →
          Calls P n args' w fun e w' => ∃ v' R', e = .returned v' ∧ StepR R w R' w' ∧ Rel R' (H'[·]?) w' ∧ VR R' v v' ∧ StepH R H R' H' := by
        intro ex e' H1 _ hne hev hres
        rw [Option.map_eq_some_iff] at hres
        obtain ⟨v0, hv0, hp⟩ := hres
        simp only [Prod.mk.injEq] at hp
        obtain ⟨rfl, rfl⟩ := hp
        refine calls_of_wp hfn hb (code_ok hX hD fuel c _ e' H H1 ex hev R _ w hE hrel _ fun a' w' R' r1 r2 r3 r4 r5 => ?_)
        have hpost : a'.defers = [] ∧ ∃ x, (results fn a'.tmps).run P w' = .ok x w' ∧ ∃ v' R', Ending.returned x = .returned v' ∧ StepR R w R' w' ∧ Rel R' (H1[·]?) w' ∧ VR R' v0 v' ∧ StepH R H R' H1 := by
          refine ⟨r4, ?_⟩
          unfold resultsE at hv0
          have hrun : ∀ (vs : List V) (xs : List Value), VRL R' vs xs → (fn.results.toList.mapM (resF a'.tmps)).run P w' = .ok xs w' →
              (results fn a'.tmps).run P w' = .ok (if h : xs.toArray.size = 1 then xs.toArray[0] else .tuple xs.toArray) w' := by
            intro vs xs hvx hm
            rw [results_eq, Sem.run_bind, Array.mapM_eq_mapM_toList, Sem.run_map, hm]
            rfl
          split at hv0
          · rename_i v1 hm
            simp only [Option.some.injEq] at hv0; subst hv0
            obtain ⟨xs, h1, h2⟩ := results_ok r3 r2 hrs hm
            obtain ⟨v2, x2, hv2, rfl, hx2⟩ := one_of_length h1 rfl
            simp only [List.cons.injEq, and_true] at hv2; subst hv2
            exact ⟨_, hrun _ _ h1 h2, _, R', rfl, r1, r2, hx2, r5⟩
          · rename_i l hl1 hm
            simp only [Option.some.injEq] at hv0; subst hv0
            obtain ⟨xs, h1, h2⟩ := results_ok r3 r2 hrs hm
            have hne1 : ¬ xs.toArray.size = 1 := by
              intro h1s
              have hll := h1.length
              simp at h1s
              obtain ⟨v2, x2, rfl, rfl, hx2⟩ := one_of_length h1 (by omega)
              exact hl1 v2 rfl
            refine ⟨_, hrun _ _ h1 h2, .tuple xs.toArray, R', ?_, r1, r2, .tup (by simpa using h1), r5⟩
            rw [dif_neg hne1]
          · simp at hv0
        cases ex with
        | normal => exact hpost
        | ret => exact hpost
        | exit i => exact absurd rfl (hne i)
      split at h
      · rename_i e1 H1 hev
        exact fin .normal e1 H1 (by simp) (by simp) hev h
      · rename_i e1 H1 hev
        exact fin .ret e1 H1 (by simp) (by simp) hev h
      · simp at h
    · simp at h
  · simp at hc
end
end Go.PE
