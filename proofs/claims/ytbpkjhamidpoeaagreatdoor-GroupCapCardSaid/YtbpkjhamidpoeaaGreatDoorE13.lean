/- The operations that read memory. Nothing of a program stands here. -/
import Derived.Test.YtbpkjhamidpoeaaGreatDoorE12
namespace Go.PE

section
variable {P : Program} {R : Ren}

theorem run_loadVarT {t : TypeId} {g : Bool} {n : Nat} (hs : shapeT P t = some (g, n)) {cs : List V} {xs : List Value} (hx : VRL R cs xs) {v : V} (hm : mk g cs = some v) (hn : cs.length = n)
    {addr : Addr} {w : World} (hr : ∀ (j : Nat) (y : Value), xs[j]? = some y → w.cell? (addr.add j) = some y) : ∃ v', (loadVar t addr).run P w = .ok v' w ∧ VR R v v' := by
  obtain ⟨h1, h2, ⟨d, h3⟩, h4, h5⟩ := shapeT_ok hs
  have hlen := hx.length
  cases g with
  | true =>
    simp only [mk, if_true, Option.some.injEq] at hm; subst hm
    have hl := run_loadCells_list (P := P) w addr xs hr
    rw [← hlen, hn] at hl
    refine ⟨.agg xs.toArray, ?_, .agg (by simpa using hx)⟩
    simp [loadVar, run_isAgg h3, h2, run_sizeT h1, hl]
  | false =>
    have hn1 := h4 rfl
    obtain ⟨v0, x0, rfl, rfl, hv0⟩ := one_of_length hx (by omega)
    simp only [mk, Bool.false_eq_true, if_false, Option.some.injEq] at hm; subst hm
    have hc := hr 0 x0 (by simp)
    have ha : addr.add 0 = addr := by simp [Addr.add]
    rw [ha] at hc
    refine ⟨x0, ?_, hv0⟩
    simp [loadVar, run_isAgg h3, h2, hc]

theorem load_ok {t : TypeId} {g : Bool} {n : Nat} (hs : shapeT P t = some (g, n)) {x : V} {x' : Value} (hx : VR R x x') {H : Heap} {v : V} (h : loadE g n x H = some v) {w : World} (hrel : Rel R (H[·]?) w) :
    ∃ v', (Instr.loadAt t x').run P w = .ok v' w ∧ VR R v v' := by
  cases hx <;> simp only [loadE, reduceCtorEq] at h
  · rename_i b v0 off ext L a1 a2 a3
    split at h
    · rename_i hle
      rw [Option.bind_eq_some_iff] at h
      obtain ⟨cs, hcs, hm⟩ := h
      obtain ⟨hlen, xs, hxs, hr⟩ := hrel.read a1 a2 (by omega) hcs
      obtain ⟨v', h1, h2⟩ := run_loadVarT hs hxs hm hlen hr
      exact ⟨v', by simp [Instr.loadAt, Instr.sureAddr, h1], h2⟩
    · simp at h
  · rename_i l r o a1
    split at h
    · rename_i hle
      obtain ⟨xs, hxs, hr⟩ := hrel.readIm a1 n hle
      obtain ⟨v', h1, h2⟩ := run_loadVarT hs hxs h (by simp; omega) hr
      exact ⟨v', by simp [Instr.loadAt, Instr.sureAddr, h1], h2⟩
    · simp at h

theorem int_of_VR {k : V} {k' : Value} (hk : VR R k k') {a : IntKind} {m : Int} (h : k = .int a m) : k' = .int a m := by
  subst h; cases hk; rfl

theorem find_ok {k0 : IntKind} {a : IntKind} {m : Int} : ∀ {es : List (V × V × Nat)} {es' : List MapEntry} {r : Option V}, MapR R es es' → findE (.int a m) es = some r → ∀ (i : Nat),
    ∃ r', Instr.findNow (.int k0) (.int a m) es' i = some r' ∧ (match r, r' with | none, none => True | some v, some (_, v') => VR R v v' | _, _ => False)
  | _, _, r, .nil, h, i => by
    simp only [findE, Option.some.injEq] at h; subst h
    exact ⟨none, rfl, trivial⟩
  | _, _, r, .cons (k := kk) (v := vv) (e := e) hk hv _ hrest, h, i => by
    cases kk <;> simp only [findE, reduceCtorEq] at h
    rename_i b1 n1
    have hke := int_of_VR hk rfl
    split at h
    · rename_i hab
      subst hab
      split at h
      · rename_i hmn
        simp only [Option.some.injEq] at h; subst h
        refine ⟨some (i, e.val), ?_, hv⟩
        simp only [Instr.findNow, Instr.sameNow, hke, if_true, hmn]
      · rename_i hmn
        obtain ⟨r', h1, h2⟩ := find_ok (k0 := k0) hrest h (i + 1)
        refine ⟨r', ?_, h2⟩
        have hmn' : (m == n1) = false := by simpa using hmn
        simp only [Instr.findNow, Instr.sameNow, hke, if_true, hmn']
        exact h1
    · simp at h

theorem run_checkKey {key : TypeId} {k0 : IntKind} (h : P.underlying key = some (.int k0)) (b : Bool) (n : Nat) (k : IntKind) (m : Int) (w : World) :
    (Instr.checkKey b (n + 1) key (.int k m)).run P w = .ok () w := by
  simp only [Instr.checkKey, Sem.run_bind, run_underlying h, Result.andThen_ok]
  rfl

theorem run_getMap {r : Nat} {es : Array MapEntry} {clock : Nat} {w : World} (h : w.heap[r]? = some (.map es clock)) : (getObj r).run P w = .ok (.map es clock) w := by
  simp [getObj, Sem.run, h]

theorem zeroV_ok {t : TypeId} {z : V} (h : zeroV P t = some z) : ∃ v, (∀ w, (zeroValue t).run P w = .ok v w) ∧ VR R z v := by
  unfold zeroV at h
  rw [Option.bind_eq_some_iff] at h
  obtain ⟨v, hv, hz⟩ := h
  rw [Option.bind_eq_some_iff] at hv
  obtain ⟨i, hi, hv⟩ := hv
  exact ⟨v, fun w => run_zero hi hv w, ofConst_ok hz⟩

def outV (zv : Value) (ok : Bool) (r : Option (Nat × Value)) : Value :=
  match r with
  | some (_, v) => if ok then .tuple #[v, .bool true] else v
  | none => if ok then .tuple #[zv, .bool false] else zv

theorem run_lookup {t key el : TypeId} {k0 : IntKind} {ok : Bool} (hu : P.underlying t = some (.map key el)) (hk0 : P.underlying key = some (.int k0)) {zv : Value} (hzv : ∀ w, (zeroValue el).run P w = .ok zv w)
    {m' : Value} {es : Array MapEntry} {w : World} (hm : (m' = .map none ∧ es = #[]) ∨ ∃ r clock, m' = .map (some r) ∧ w.heap[r]? = some (.map es clock)) {a : IntKind} {n : Int} {r' : Option (Nat × Value)}
    (h : Instr.findNow (.int k0) (.int a n) es.toList 0 = some r') :
    (Instr.lookup t m' (.int a n) ok).run P w = .ok (outV zv ok r') w := by
  have hfk : (Instr.findKey key (.int a n) es.toList).run P w = .ok r' w := by
    simp only [Instr.findKey, Sem.run_bind, run_underlying hk0, Result.andThen_ok, h, Sem.run_pure]
  have hck := run_checkKey hk0 es.isEmpty 9999 a n w
  rcases hm with ⟨rfl, rfl⟩ | ⟨r, clock, rfl, hb⟩
  · simp only [Instr.lookup, Sem.run_bind, run_underlying hu, Result.andThen_ok, Sem.run_pure, hck, hfk]
    cases r' with
    | none => simp only [Sem.run_bind, hzv, Result.andThen_ok, Sem.run_pure]; rfl
    | some p => rfl
  · simp only [Instr.lookup, Sem.run_bind, run_underlying hu, Result.andThen_ok, Sem.run_pure, run_getMap hb, hck, hfk]
    cases r' with
    | none => simp only [Sem.run_bind, hzv, Result.andThen_ok, Sem.run_pure]; rfl
    | some p => rfl

theorem out_ok {r : Option V} {r' : Option (Nat × Value)} (h3 : match r, r' with | none, none => True | some v, some (_, v') => VR R v v' | _, _ => False) {z0 : V} {zv : Value} (hrz : VR R z0 zv) (ok : Bool) :
    VR R (outE z0 ok r) (outV zv ok r') := by
  cases r with
  | none =>
    cases r' with
    | some p => simp at h3
    | none =>
      cases ok
      · exact hrz
      · exact .tup (.cons hrz (.cons (.bool _) .nil))
  | some v =>
    cases r' with
    | none => simp at h3
    | some p =>
      cases ok
      · exact h3
      · exact .tup (.cons h3 (.cons (.bool _) .nil))

theorem lookup_ok {t key el : TypeId} {k0 : IntKind} {z0 : V} {ok : Bool} (hu : P.underlying t = some (.map key el)) (hk0 : P.underlying key = some (.int k0))
    (hz : zeroV P el = some z0) {m k : V} {m' k' : Value} (hm : VR R m m') (hk : VR R k k') {H : Heap} {v : V} (h : lookupE z0 ok m k H = some v) {w : World} (hrel : Rel R (H[·]?) w) :
    ∃ v', (Instr.lookup t m' k' ok).run P w = .ok v' w ∧ VR R v v' := by
  obtain ⟨zv, hzv, hrz⟩ := zeroV_ok (R := R) hz
  cases hm <;> simp only [lookupE, reduceCtorEq] at h
  · rename_i b rr hr
    cases hk <;> simp only [reduceCtorEq] at h
    rename_i a n
    split at h
    · rename_i es clock hg
      obtain ⟨es1, clock1, es', hg1, hb1, hmr⟩ := hrel.mp b rr hr
      have hg1' : H[b]? = some (.map es1 clock1) := hg1
      rw [hg] at hg1'
      simp only [Option.some.injEq, Box.map.injEq] at hg1'
      obtain ⟨rfl, rfl⟩ := hg1'
      rw [Option.map_eq_some_iff] at h
      obtain ⟨r, hfr, rfl⟩ := h
      obtain ⟨r', h1, h2⟩ := find_ok (k0 := k0) hmr hfr 0
      exact ⟨_, run_lookup hu hk0 hzv (.inr ⟨rr, clock, rfl, hb1⟩) h1, out_ok h2 hrz ok⟩
    · simp at h
  · cases hk <;> simp only [Option.some.injEq, reduceCtorEq] at h
    subst h
    exact ⟨_, run_lookup (r' := none) hu hk0 hzv (.inl ⟨rfl, rfl⟩) rfl, out_ok (r := none) (r' := none) trivial hrz ok⟩

theorem bytes_ok : ∀ {cs : List V} {xs : List Value} {bs : List UInt8}, VRL R cs xs → bytesE cs = some bs → ∀ (acc : ByteArray) (w : World),
    (forIn xs acc (fun (c : Value) (s : ByteArray) => (match c with
      | .int .u8 n => do
        let s := s.push (UInt8.ofNat n.toNat)
        pure (ForInStep.yield s)
      | _ => stuck "bytesToString: byte expected" : Sem (ForInStep ByteArray)))).run P w = .ok ⟨acc.data ++ bs.toArray⟩ w
  | _, _, bs, .nil, h, acc, w => by
    simp only [bytesE, Option.some.injEq] at h; subst h
    simp
  | _, _, bs, .cons (v := v) (x := x) a b, h, acc, w => by
    cases a <;> first | (exact absurd h (by simp [bytesE])) | skip
    rename_i k n
    cases k <;> first | (simp only [bytesE, reduceCtorEq] at h; done) | skip
    simp only [bytesE, Option.map_eq_some_iff] at h
    obtain ⟨bs', h1, rfl⟩ := h
    have ih := bytes_ok b h1 (acc.push (UInt8.ofNat n.toNat)) w
    simp only [List.forIn_cons, Sem.run_bind, Sem.run_pure, Result.andThen_ok]
    rw [ih]
    congr 2
    apply Array.ext'
    simp [ByteArray.push]

theorem firstCells_ok {es n : Nat} {x : V} {x' : Value} (hx : VR R x x') {H : Heap} {cs : List V} (h : firstE es n x H = some cs) {w : World} (hrel : Rel R (H[·]?) w) :
    ∃ xs : Array Value, (Builtin.firstCells es n x').run P w = .ok xs w ∧ VRL R cs xs.toList := by
  cases hx <;> simp only [firstE, reduceCtorEq] at h
  · rename_i s
    split at h
    · rename_i h1
      simp only [Option.some.injEq] at h; subst h
      refine ⟨(s.extract 0 n).data.map fun b => .int .u8 b.toNat, rfl, ?_⟩
      have hd : (s.extract 0 n).data.toList = s.data.toList.take n := by
        rw [← subStr_eq]; simp [subStr]
      rw [Array.toList_map, hd]
      refine VRL.of_get (by simp) fun j v hv => ?_
      rw [List.getElem?_map, Option.map_eq_some_iff] at hv
      obtain ⟨b, hb, rfl⟩ := hv
      exact ⟨_, by rw [List.getElem?_map, hb]; rfl, .int _ _⟩
    · simp at h
  · rename_i b v off len es' c cap L a1 a2 a3 a4 a5 a6
    split at h
    · rename_i hc
      obtain ⟨rfl, hn⟩ := hc
      have hmul : n * es ≤ len * es := Nat.mul_le_mul_right _ hn
      obtain ⟨hlen, xs, hxs, hr⟩ := hrel.read a1 a2 (by omega) h
      have hl := run_loadCells_list (P := P) w _ xs hr
      rw [← hxs.length, hlen] at hl
      exact ⟨xs.toArray, hl, by simpa using hxs⟩
    · simp at h
  · rename_i b v off es' r o cap L a1 a2 a3 a4
    split at h
    · rename_i hc
      obtain ⟨rfl, hn⟩ := hc
      have hn0 : n = 0 := by omega
      subst hn0
      obtain ⟨hlen, xs, hxs, hr⟩ := hrel.read a1 a2 (by omega) h
      have : cs = [] := List.eq_nil_of_length_eq_zero (by omega)
      subst this
      refine ⟨#[], ?_, .nil⟩
      simp [Builtin.firstCells, loadCells, loadCellsFrom]
    · simp at h
  · split at h
    · rename_i hn
      subst hn
      simp only [Option.some.injEq] at h; subst h
      exact ⟨#[], rfl, .nil⟩
    · simp at h
  · split at h
    · rename_i hn
      subst hn
      simp only [Option.some.injEq] at h; subst h
      exact ⟨#[], by simp [Builtin.firstCells, loadCells, loadCellsFrom], .nil⟩
    · simp at h
  · rename_i m r o c l a1 a2
    split at h
    · rename_i hc
      simp only [Option.some.injEq] at h; subst h
      obtain ⟨xs, hxs, hr⟩ := hrel.readIm a1 (n * es) hc.2
      have hl := run_loadCells_list (P := P) w _ xs hr
      rw [← hxs.length, List.length_take, Nat.min_eq_left hc.2] at hl
      exact ⟨xs.toArray, hl, by simpa using hxs⟩
    · simp at h

theorem lenOf_ok {x : V} {x' : Value} (hx : VR R x x') {n : Nat} (h : lenE x = some n) (w : World) : (Builtin.lenOf x').run P w = .ok n w := by
  rcases lenE_ok hx h with ⟨s, rfl, rfl, rfl⟩ | ⟨a, c, rfl⟩ <;> rfl

def Op.mayRead : Op → Bool
  | .load .. | .lookup .. | .convert .. => true
  | _ => false

theorem notRead_builtin {b : Builtin} {ats : Array TypeId} {args : List Operand} {eo : EOp} (hc : cBuiltin P b ats args = some eo) : readsMem eo = false := by
  unfold cBuiltin at hc
  repeat' split at hc
  all_goals first
    | (simp only [reduceCtorEq] at hc; done)
    | (rw [Option.map_eq_some_iff] at hc; obtain ⟨y, hy, rfl⟩ := hc; rfl)
    | (simp only [Option.some.injEq] at hc; subst hc; rfl)

theorem notRead {o : Oper} {eo : EOp} (hc : cOp P o = some eo) (h : Op.mayRead o.op = false) : readsMem eo = false := by
  obtain ⟨dst, op, ty, pos, after, guard⟩ := o
  cases op <;> simp only [Op.mayRead, Bool.true_eq_false] at h
  case move | assign | nilCheck | unOp | extract | alloc | box =>
    simp only [cOp, Option.map_eq_some_iff] at hc
    obtain ⟨y, hy, rfl⟩ := hc
    rfl
  case pick =>
    simp only [cOp, Option.bind_eq_bind, Option.bind_eq_some_iff, Option.some.injEq] at hc
    obtain ⟨c1, hc1, x1, hx1, y1, hy1, rfl⟩ := hc
    rfl
  case binOp =>
    simp only [cOp, cBin, cEq] at hc
    repeat' split at hc
    all_goals first
      | (simp only [reduceCtorEq] at hc; done)
      | (rw [Option.map_eq_some_iff] at hc; obtain ⟨y, hy, rfl⟩ := hc; rfl)
      | (simp only [Option.some.injEq] at hc; subst hc; rfl)
  case call c =>
    obtain ⟨callee, args, ats⟩ := c
    simp only [cOp] at hc
    cases callee with
    | invoke r m => simp at hc
    | builtin b => exact notRead_builtin hc
    | value f =>
      cases f <;> simp only at hc
      case func f =>
        rw [Option.map_eq_some_iff] at hc
        obtain ⟨y, hy, rfl⟩ := hc
        rfl
      all_goals
        split at hc
        · simp only [Option.some.injEq] at hc; subst hc; rfl
        · simp at hc
  case makeFunc fn first captured =>
    cases fn <;> simp only [cOp, reduceCtorEq] at hc
    split at hc
    · simp only [Option.some.injEq] at hc; subst hc; rfl
    · simp at hc
  case slice t x lo hi mx =>
    cases mx <;> simp only [cOp, reduceCtorEq] at hc
    repeat' split at hc
    all_goals first
      | (simp only [reduceCtorEq] at hc; done)
      | (simp only [Option.some.injEq] at hc; subst hc; rfl)
  case makeMap t r =>
    cases r <;> simp only [cOp, reduceCtorEq] at hc
    repeat' split at hc
    all_goals first
      | (simp only [reduceCtorEq] at hc; done)
      | (simp only [Option.some.injEq] at hc; subst hc; rfl)
  all_goals
    simp only [cOp] at hc
    repeat' split at hc
    all_goals first
      | (simp only [reduceCtorEq] at hc; done)
      | (rw [Option.map_eq_some_iff] at hc; obtain ⟨y, hy, rfl⟩ := hc; rfl)
      | (simp only [Option.some.injEq] at hc; subst hc; rfl)

/-- THE LAW of the operations that read memory. -/
theorem read_ok {o : Oper} {eo : EOp} (hc : cOp P o = some eo) (hp : readsMem eo = true) {e : Env} {a : Act} (hE : VRL R e a.tmps.toList) {X : Ctx} {H H' : Heap} {v : V}
    (h : evalOp X e H eo = some (v, H')) : H' = H ∧ ∀ {w : World}, Rel R (H[·]?) w → ∃ v', (execOp a.eval o).run P w = .ok (.value v') w ∧ VR R v v' := by
  obtain ⟨dst, op, ty, pos, after, guard⟩ := o
  cases op with
  | load t x =>
    simp only [cOp] at hc
    split at hc
    · rename_i g n x1 hs hx
      simp only [Option.some.injEq] at hc; subst hc
      simp only [evalOp] at h
      obtain ⟨h1, rfl⟩ := pure1_ok h
      refine ⟨rfl, fun hrel => ?_⟩
      obtain ⟨v', h2, h3⟩ := load_ok (P := P) hs (opd_ok hx hE) h1 hrel
      exact ⟨v', by simp [execOp, h2], h3⟩
    · simp at hc
  | lookup t m k ok =>
    simp only [cOp] at hc
    split at hc
    · rename_i key el hu
      split at hc
      · rename_i k0 z m1 k1 hk0 hz hm hk
        simp only [Option.some.injEq] at hc; subst hc
        simp only [evalOp] at h
        obtain ⟨h1, rfl⟩ := pure1_ok h
        refine ⟨rfl, fun hrel => ?_⟩
        obtain ⟨v', h2, h3⟩ := lookup_ok (P := P) hu hk0 hz (opd_ok hm hE) (opd_ok hk hE) h1 hrel
        exact ⟨v', by simp [execOp, h2], h3⟩
      · simp at hc
    · simp at hc
  | convert src dt x =>
    simp only [cOp] at hc
    split at hc
    · rw [Option.map_eq_some_iff] at hc
      obtain ⟨y, hy, rfl⟩ := hc
      simp [readsMem] at hp
    · rw [Option.map_eq_some_iff] at hc
      obtain ⟨y, hy, rfl⟩ := hc
      simp [readsMem] at hp
    · rename_i el hs hd
      split at hc
      · rename_i hel
        rw [Option.map_eq_some_iff] at hc
        obtain ⟨y, hy, rfl⟩ := hc
        have rx := opd_ok hy hE
        simp only [evalOp] at h
        split at h
        · simp at h
        · rename_i n hn hns
          split at h
          · rename_i cs hcs
            obtain ⟨h1, rfl⟩ := pure1_ok h
            rw [Option.map_eq_some_iff] at h1
            obtain ⟨bs, hbs, rfl⟩ := h1
            refine ⟨rfl, fun hrel => ?_⟩
            rename_i w
            obtain ⟨xs, h2, h3⟩ := firstCells_ok (P := P) rx hcs hrel
            rcases lenE_ok rx hn with ⟨s, he, _, _⟩ | ⟨q, c, hq⟩
            · exact absurd he (hns s)
            · refine ⟨.string ⟨bs.toArray⟩, ?_, .str _⟩
              rw [hq] at h2
              have hb := bytes_ok (P := P) h3 hbs .empty w
              have hconv : (convert src dt (.slice q n c)).run P w = .ok (.string ⟨bs.toArray⟩) w := by
                simp only [convert, Sem.run_bind, run_underlying hs, run_underlying hd, run_underlying hel, Result.andThen_ok]
                cases q with
                | none =>
                  simp only [Builtin.firstCells, Sem.run_pure, Result.ok.injEq, and_true] at h2
                  subst h2
                  have : cs = [] := by cases h3; rfl
                  subst this
                  simp only [bytesE, Option.some.injEq] at hbs; subst hbs
                  rfl
                | some q =>
                  simp only [Builtin.firstCells, Nat.mul_one] at h2
                  simp only [Conv.bytesToString, Sem.run_bind, h2, Result.andThen_ok]
                  rw [← Array.forIn_toList]
                  refine Eq.trans (congrArg (fun r => Result.andThen r _) hb) ?_
                  simp
              simp [execOp, hq, hconv]
          · simp at h
        · simp at h
      · simp at hc
    · simp at hc
  | _ =>
    have := notRead hc rfl
    rw [hp] at this
    simp at this

end
end Go.PE
