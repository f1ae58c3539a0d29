/- The evaluator's operations, told by what they read of the heap and what they do to it: one change of one box, or a new box. Nothing of a program stands here. -/
import Derived.Test.YtbpkjhamidpoeaaGreatDoorE1
namespace Go.PE

inductive Upd where
  | same
  | push (x : Box)
  | put (b : Nat) (x : Box)

def Upd.on (H : Heap) : Upd → Heap
  | .same => H
  | .push x => H ++ [x]
  | .put b x => H.set b x

def readG (g : Nat → Option Box) (b v off n : Nat) : Option (List V) :=
  match g b with
  | some (.cells l _ mn) => if mn ≤ v ∧ off + n ≤ l.length then some ((l.drop off).take n) else none
  | _ => none

def loadG (g : Nat → Option Box) (agg : Bool) (n : Nat) (a : V) : Option V :=
  match a with
  | .ptr b v off ext => if n ≤ ext then (readG g b v off n).bind (mk agg) else none
  | .pptr l => if n ≤ l.length then mk agg (l.take n) else none
  | _ => none

def writeG (g : Nat → Option Box) (b v off : Nat) (cs : List V) : Option Upd :=
  match g b with
  | some (.cells l ver _) => if v = ver ∧ off + cs.length ≤ l.length ∧ cs.all V.one then some (.put b (.cells (splice l off cs) ver ver)) else none
  | _ => none

def storeG (g : Nat → Option Box) (n : Nat) (a x : V) : Option Upd :=
  match a with
  | .ptr b v off ext => if x.cells.length = n ∧ n ≤ ext then writeG g b v off x.cells else none
  | _ => none

def newG (m : Nat) (cs : List V) : Option (V × Upd) := if cs.all V.one then some (.ptr m 0 0 cs.length, .push (.cells cs 0 0)) else none

def firstG (g : Nat → Option Box) (es n : Nat) (x : V) : Option (List V) :=
  match x with
  | .slice b v off len es' _ => if es = es' ∧ n ≤ len then readG g b v off (n * es) else none
  | .psl m l => if n ≤ m ∧ n * es ≤ l.length then some (l.take (n * es)) else none
  | .nils => if n = 0 then some [] else none
  | .emp0 => if n = 0 then some [] else none
  | .str s => if es = 1 then some ((s.data.toList.take n).map fun b => .int .u8 b.toNat) else none
  | _ => none

def appendG (g : Nat → Option Box) (m es bytes : Nat) (s x : V) : Option (V × Upd) :=
  match lenE x with
  | none => none
  | some k =>
  match firstG g es k x with
  | none => none
  | some xs =>
  if xs.all V.one && xs.length == k * es then
    if k = 0 then
      match s with
      | .nils => some (.nils, .same)
      | .emp0 => some (.emp0, .same)
      | .slice b v off len es' cap => some (.slice b v off len es' cap, .same)
      | .psl n l => some (.psl n l, .same)
      | _ => none
    else
      match s with
      | .nils => if room (0 + k) bytes then some (.slice m 0 0 (0 + k) es none, .push (.cells xs 0 0)) else none
      | .emp0 => if room (0 + k) bytes then some (.slice m 0 0 (0 + k) es none, .push (.cells xs 0 0)) else none
      | .slice b v off len es' none =>
        match g b with
        | some (.cells l ver mn) =>
          if es = es' ∧ v = ver ∧ mn ≤ v ∧ off + len * es = l.length ∧ room (len + k) bytes then
            some (.slice b (ver + 1) off (len + k) es none, .put b (.cells (l ++ xs) (ver + 1) mn)) else none
        | _ => none
      | .slice b v off len es' (some c) =>
        if len + k ≤ c then none else
        match firstG g es len (.slice b v off len es' (some c)) with
        | some old => if old.all V.one && old.length == len * es && room (len + k) bytes then some (.slice m 0 0 (len + k) es none, .push (.cells (old ++ xs) 0 0)) else none
        | none => none
      | _ => none
  else none

def copyG (g : Nat → Option Box) (es : Nat) (d x : V) : Option (V × Upd) :=
  match lenE x with
  | none => none
  | some k =>
    match d with
    | .slice b v off len es' _ =>
      match firstG g es (min k len) x with
      | some xs =>
        if es = es' ∧ xs.length = min k len * es then
          if min k len = 0 then some (.int .i64 0, .same) else (writeG g b v off xs).map fun u => (.int .i64 (min k len : Nat), u)
        else none
      | none => none
    | .nils => some (.int .i64 0, .same)
    | .emp0 => some (.int .i64 0, .same)
    | _ => none

def clearG (g : Nat → Option Box) (zero : List V) (es : Nat) (d : V) : Option (V × Upd) :=
  match d with
  | .nils => some (.tup [], .same)
  | .emp0 => some (.tup [], .same)
  | .slice _ _ _ 0 _ _ => some (.tup [], .same)
  | .slice b v off len es' _ => if es = es' ∧ zero.length = es then (writeG g b v off (repeatL zero len)).map fun u => (.tup [], u) else none
  | _ => none

def lookupG (g : Nat → Option Box) (zero : V) (ok : Bool) (m k : V) : Option V :=
  match m, k with
  | .nilmap, .int _ _ => some (outE zero ok none)
  | .map b, .int a n =>
    match g b with
    | some (.map es _) => (findE (.int a n) es).map (outE zero ok)
    | _ => none
  | _, _ => none

def mapUpdG (g : Nat → Option Box) (m k v : V) : Option Upd :=
  match m, k with
  | .map b, .int a n =>
    match g b with
    | some (.map es clock) => (updE (.int a n) v clock es).map fun es' => .put b (.map es' (if es'.length = es.length then clock else clock + 1))
    | _ => none
  | _, _ => none

def pureG (v : Option V) : Option (V × Upd) := match v with | some v => some (v, .same) | none => none

/-- Operations other than calls. -/
def opG : EOp → (Opd → V) → (Nat → Option Box) → Nat → Option (V × Upd)
  | .move x => fun ev _ _ => some (ev x, .same)
  | .pick c a b => fun ev _ _ => match ev c with | .bool t => some (if t then ev a else ev b, .same) | _ => none
  | .new cells => fun _ _ m => newG m cells
  | .box _ x => fun ev _ m => newG m (ev x).cells
  | .build zero parts => fun ev _ _ => pureG ((fillE zero (parts.map fun p => (p.1, p.2.1, ev p.2.2))).map .agg)
  | .buildSl es zero len parts => fun ev _ m =>
    if len = 0 then some (.emp0, .same) else
    match fillE (repeatL zero len) (parts.map fun p => (p.1, p.2.1, ev p.2.2)) with
    | some cs => if cs.all V.one then some (.slice m 0 0 len es (some len), .push (.cells cs 0 0)) else none
    | none => none
  | .load agg n a => fun ev g _ => pureG (loadG g agg n (ev a))
  | .store n a x => fun ev g _ => (storeG g n (ev a) (ev x)).map fun u => (V.undef, u)
  | .nilc x => fun ev _ _ => match ev x with | .ptr b v o n => some (.ptr b v o n, .same) | .pptr l => some (.pptr l, .same) | .fn f a c => some (.fn f a c, .same) | _ => none
  | .bin op x y => fun ev _ _ => pureG (binE op (ev x) (ev y))
  | .eq neg ek x y => fun ev _ _ => pureG ((eqE ek (ev x) (ev y)).map fun b => .bool (b != neg))
  | .un op x => fun ev _ _ => pureG (unE op (ev x))
  | .conv k x => fun ev _ _ => match ev x with | .int _ n => some (.int k (k.wrap n), .same) | _ => none
  | .toStr x => fun ev g _ =>
    match lenE (ev x), ev x with
    | some _, .str _ => none
    | some n, v => match firstG g 1 n v with
      | some cs => pureG ((bytesE cs).map fun bs => .str ⟨bs.toArray⟩)
      | none => none
    | none, _ => none
  | .mkIface t x => fun ev _ _ => some (.iface t (ev x), .same)
  | .mkFn f a c => fun ev _ _ => some (.fn f (a.map ev) (c.map ev), .same)
  | .mkMap => fun _ _ m => some (.map m, .push (.map [] 0))
  | .mkSl es bytes zero len cap => fun ev _ m => match ev len, ev cap with
    | .int _ l, .int _ c => if 0 ≤ l ∧ l = c ∧ c < 2 ^ 40 ∧ c * bytes ≤ 2 ^ 47 ∧ zero.all V.one ∧ zero.length = es then
        some (if l = 0 then (.emp0, .same) else (.slice m 0 0 l.toNat es (some c.toNat), .push (.cells (repeatL zero c.toNat) 0 0))) else none
    | _, _ => none
  | .subs x lo hi => fun ev _ _ => pureG (subsE (ev x) (lo.map ev) (hi.map ev))
  | .strId x => fun ev _ _ => match ev x with | .str s => some (.str s, .same) | _ => none
  | .slice es x lo hi => fun ev _ _ => pureG (sliceE es (ev x) (lo.map ev) (hi.map ev))
  | .sliceArr len es x lo hi => fun ev _ _ => pureG (sliceArrE len es (ev x) (lo.map ev) (hi.map ev))
  | .fieldAddr off x => fun ev _ _ => pureG (fieldAddrE off (ev x))
  | .field agg off n x => fun ev _ _ => pureG (fieldE agg off n (ev x))
  | .indexAddrArr len es x i => fun ev _ _ => pureG (indexAddrArrE len es (ev x) (ev i))
  | .indexAddrSl es x i => fun ev _ _ => pureG (indexAddrSlE es (ev x) (ev i))
  | .index arr x i => fun ev _ _ => pureG (indexE arr (ev x) (ev i))
  | .lookup zero ok m k => fun ev g _ => pureG (lookupG g zero ok (ev m) (ev k))
  | .mapUpd m k v => fun ev g _ => (mapUpdG g (ev m) (ev k) (ev v)).map fun u => (V.undef, u)
  | .extract x i => fun ev _ _ => match ev x with | .tup l => pureG l[i]? | _ => none
  | .call _ _ => fun _ _ _ => none
  | .callv _ _ => fun _ _ _ => none
  | .len st x => fun ev _ _ => (lenK st (ev x)).map fun (n : Nat) => (V.int .i64 (n : Int), .same)
  | .lenArr n => fun _ _ _ => some (V.int .i64 n, .same)
  | .append es bytes s x => fun ev g m => appendG g m es bytes (ev s) (ev x)
  | .copy es d x => fun ev g _ => copyG g es (ev d) (ev x)
  | .clear zero es d => fun ev g _ => clearG g zero es (ev d)
  | .minmax mx x y => fun ev _ _ => pureG (minE mx (ev x) (ev y))
  | .fail => fun _ _ _ => none

/-- A call: whom, with what. -/
def callG : EOp → (Opd → V) → Option (FuncId × List V)
  | .call f args => fun ev => some (f, args.map ev)
  | .callv f args => fun ev => match ev f with | .fn f a c => some (f, a ++ args.map ev ++ c) | _ => none
  | _ => fun _ => none

theorem loadG_eq {H : Heap} {agg : Bool} {n : Nat} {a : V} : loadE agg n a H = loadG (H[·]?) agg n a := rfl
theorem firstG_eq {H : Heap} {es n : Nat} {x : V} : firstE es n x H = firstG (H[·]?) es n x := rfl
theorem lookupG_eq {H : Heap} {z : V} {ok : Bool} {m k : V} : lookupE z ok m k H = lookupG (H[·]?) z ok m k := rfl

def Upd.done (H : Heap) (p : V × Upd) : V × Heap := (p.1, p.2.on H)

theorem pureG_eq {H : Heap} {v : Option V} {r : V × Upd} (h : pureG v = some r) : pure1 H v = some (r.1, r.2.on H) := by
  unfold pureG at h
  split at h
  · simp only [Option.some.injEq] at h; subst h; rfl
  · simp at h

theorem writeG_eq {H : Heap} {b v off : Nat} {cs : List V} {u : Upd} (h : writeG (H[·]?) b v off cs = some u) : writeCells H b v off cs = some (u.on H) := by
  unfold writeG at h
  unfold writeCells
  split at h
  · rename_i l ver mn hb
    have hb : H[b]? = _ := hb
    rw [hb]
    simp only
    split at h
    · rename_i hc
      rw [if_pos hc]
      simp only [Option.some.injEq] at h; subst h; rfl
    · simp at h
  · simp at h

theorem opG_ok {X : Ctx} {e : Env} {H : Heap} {op : EOp} {r : V × Upd} (h : opG op (Opd.ev e) (H[·]?) H.length = some r) : evalOp X e H op = some (r.1, r.2.on H) := by
  cases op <;> simp only [opG] at h <;> simp only [evalOp]
  case new cells =>
    unfold newG at h
    unfold newBox
    split at h
    · rename_i hc
      rw [if_pos hc]
      simp only [Option.some.injEq] at h; subst h; rfl
    · simp at h
  case box n x =>
    unfold newG at h
    unfold newBox
    split at h
    · rename_i hc
      rw [if_pos hc]
      simp only [Option.some.injEq] at h; subst h; rfl
    · simp at h
  case store n a x =>
    rw [Option.map_eq_some_iff] at h ⊢
    obtain ⟨u, hu, rfl⟩ := h
    unfold storeG at hu
    unfold storeE
    split at hu
    · rename_i b v off ext ha
      rw [ha]
      simp only
      split at hu
      · rename_i hc
        rw [if_pos hc]
        exact ⟨_, writeG_eq hu, rfl⟩
      · simp at hu
    · simp at hu
  case mapUpd m k v =>
    rw [Option.map_eq_some_iff] at h ⊢
    obtain ⟨u, hu, rfl⟩ := h
    unfold mapUpdG at hu
    unfold mapUpdE
    split at hu
    · rename_i b a n hm hk
      rw [hm, hk]
      simp only
      split at hu
      · rename_i es clock hb
        have hb : H[b]? = _ := hb
        rw [hb]
        simp only
        rw [Option.map_eq_some_iff] at hu
        obtain ⟨es', h1, rfl⟩ := hu
        rw [h1]
        exact ⟨_, rfl, rfl⟩
      · simp at hu
    · simp at hu
  case append es bytes s x =>
    unfold appendG at h
    unfold appendE
    split at h
    · simp at h
    · rename_i k hk
      rw [hk]
      split at h
      · simp at h
      · rename_i xs hxs
        rw [← firstG_eq] at hxs
        simp only [Option.bind_eq_bind, Option.bind_some, hxs]
        split at h
        · rename_i hc
          rw [if_pos hc]
          split at h
          · rename_i hk0
            rw [if_pos hk0]
            split at h <;> first | (rename_i hs; rw [hs]; simp only [Option.some.injEq] at h; subst h; rfl) | simp at h
          · rename_i hk0
            rw [if_neg hk0]
            split at h
            · rename_i hs; rw [hs]; simp only
              split at h
              · rename_i hr; rw [if_pos hr]; simp only [Option.some.injEq] at h; subst h; rfl
              · simp at h
            · rename_i hs; rw [hs]; simp only
              split at h
              · rename_i hr; rw [if_pos hr]; simp only [Option.some.injEq] at h; subst h; rfl
              · simp at h
            · rename_i hs; rw [hs]; simp only
              split at h
              · rename_i hb
                have hb := show H[_]? = _ from hb
                rw [hb]; simp only
                split at h
                · rename_i hr; rw [if_pos hr]; simp only [Option.some.injEq] at h; subst h; rfl
                · simp at h
              · simp at h
            · rename_i hs; rw [hs]; simp only
              split at h
              · simp at h
              · rename_i hle
                rw [if_neg hle]
                split at h
                · rename_i old ho
                  rw [← firstG_eq] at ho
                  rw [ho]; simp only
                  split at h
                  · rename_i hr; rw [if_pos hr]; simp only [Option.some.injEq] at h; subst h; rfl
                  · simp at h
                · simp at h
            · simp at h
        · simp at h
  case copy es d x =>
    unfold copyG at h
    unfold copyE
    split at h
    · simp at h
    · rename_i k hk
      rw [hk]
      simp only
      split at h
      · rename_i b v off len es' cap hd
        rw [hd]; simp only
        split at h
        · rename_i xs hxs
          rw [← firstG_eq] at hxs
          rw [hxs]; simp only
          split at h
          · rename_i hc
            rw [if_pos hc]
            split at h
            · rename_i h0; rw [if_pos h0]; simp only [Option.some.injEq] at h; subst h; rfl
            · rename_i h0
              rw [if_neg h0]
              rw [Option.map_eq_some_iff] at h ⊢
              obtain ⟨u, hu, rfl⟩ := h
              exact ⟨_, writeG_eq hu, rfl⟩
          · simp at h
        · simp at h
      · rename_i hd; rw [hd]; simp only [Option.some.injEq] at h; subst h; rfl
      · rename_i hd; rw [hd]; simp only [Option.some.injEq] at h; subst h; rfl
      · simp at h
  case clear zero es d =>
    unfold clearG at h
    unfold clearE
    split at h
    · rename_i hd; rw [hd]; simp only [Option.some.injEq] at h; subst h; rfl
    · rename_i hd; rw [hd]; simp only [Option.some.injEq] at h; subst h; rfl
    · rename_i hd; rw [hd]; simp only [Option.some.injEq] at h; subst h; rfl
    · rename_i b v off len es' cap hne hd
      rw [hd]
      cases len with
      | zero => exact (hne rfl).elim
      | succ len =>
        simp only
        split at h
        · rename_i hc
          rw [if_pos hc]
          rw [Option.map_eq_some_iff] at h ⊢
          obtain ⟨u, hu, rfl⟩ := h
          exact ⟨_, writeG_eq hu, rfl⟩
        · simp at h
    · simp at h
  case mkSl es bytes zero len cap =>
    split at h
    · rename_i k1 l k2 c hl hc
      rw [hl, hc]; simp only
      split at h
      · rename_i hcond
        rw [if_pos hcond]
        simp only [Option.some.injEq] at h; subst h
        split <;> rfl
      · simp at h
    · simp at h
  case buildSl es zero len parts =>
    split at h
    · rename_i hl; rw [if_pos hl]; simp only [Option.some.injEq] at h; subst h; rfl
    · rename_i hl
      rw [if_neg hl]
      split at h
      · rename_i cs hcs
        rw [hcs]; simp only
        split at h
        · rename_i hone; rw [if_pos hone]; simp only [Option.some.injEq] at h; subst h; rfl
        · simp at h
      · simp at h
  case toStr x =>
    split at h
    · simp at h
    · rename_i n hx1 hx2
      split at h
      · rename_i cs hcs
        rw [← firstG_eq] at hcs
        rw [hx1]
        simp only
        rw [hcs]
        exact pureG_eq h
      · simp at h
    · simp at h
  all_goals first
    | exact pureG_eq h
    | (simp only [Option.some.injEq] at h; subst h; rfl)
    | (rw [Option.map_eq_some_iff] at h ⊢; obtain ⟨u, hu, rfl⟩ := h; exact ⟨_, hu, rfl⟩)
    | (split at h
       all_goals first
         | (simp at h; done)
         | (rename_i hv; rw [hv]; simp only; exact pureG_eq h)
         | (rename_i hv; rw [hv]; simp only [Option.some.injEq] at h; subst h; rfl))
    | (simp at h; done)

theorem callG_ok {X : Ctx} {e : Env} {H : Heap} {op : EOp} {f : FuncId} {args : List V} (h : callG op (Opd.ev e) = some (f, args)) : evalOp X e H op = X f args H := by
  cases op <;> simp only [callG, reduceCtorEq] at h
  case call f args =>
    simp only [Option.some.injEq, Prod.mk.injEq] at h
    obtain ⟨rfl, rfl⟩ := h
    rfl
  case callv f args =>
    split at h
    · rename_i hv
      simp only [Option.some.injEq, Prod.mk.injEq] at h
      obtain ⟨rfl, rfl⟩ := h
      simp only [evalOp, hv]
    · simp at h

end Go.PE
