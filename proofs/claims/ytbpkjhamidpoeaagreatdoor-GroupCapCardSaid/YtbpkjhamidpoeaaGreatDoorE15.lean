/- append, copy, clear. Nothing of a program stands here. -/
import Derived.Test.YtbpkjhamidpoeaaGreatDoorE14
namespace Go.PE

section
variable {P : Program} {R : Ren}

theorem growBy_le (n : Nat) : ∀ (k c : Nat), Builtin.growBy n k c ≤ max c (n + (n + 768) / 4)
  | 0, c => by simp only [Builtin.growBy]; omega
  | k + 1, c => by
    simp only [Builtin.growBy]
    split
    · omega
    · have := growBy_le n k (c + (c + 768) / 4)
      omega

theorem nextcap_le {need cap : Nat} (h : cap < need) : Builtin.nextslicecap need cap ≤ 2 * need + 1000 := by
  unfold Builtin.nextslicecap
  split
  · omega
  · split
    · omega
    · have := growBy_le need 4 cap
      omega

/-- append where there is room. -/
theorem run_append_here {t u el : TypeId} {d : TypeDesc} (ht : P.underlying t = some (.slice el)) (hu : P.underlying u = some d) (hd : isIntT d = false) {es : Nat} (hn : sizeT P el = some es) {base : Option Addr} {len cap k : Nat} {x' : Value} {w : World}
    (hk : (Builtin.lenOf x').run P w = .ok k w) (hle : len + k ≤ cap) {xs : Array Value} (hxs : (Builtin.firstCells es k x').run P w = .ok xs w) {w' : World}
    (hst : (match base with | some a => storeCells (a.add (len * es)) xs.toList | none => pure () : Sem Unit).run P w = .ok () w') (ty : TypeId) :
    (Builtin.append_ #[t, u] ty #[.slice base len cap, x']).run P w = .ok (.slice base (len + k) cap) w' := by
  cases d <;> first | (simp [isIntT] at hd; done) | skip
  all_goals
    simp only [Builtin.append_, List.getElem?_toArray, List.getElem?_cons_zero, List.getElem?_cons_succ, Sem.run_bind, run_underlying ht, Result.andThen_ok, run_sizeT hn, run_underlying hu, Sem.run_pure]
    simp only [Bool.false_eq_true, if_false, Sem.run_bind, hk, Result.andThen_ok, if_pos hle, Bool.not_false, if_true, hxs]
    cases base with
    | none =>
      simp only [Sem.run_pure, Result.ok.injEq, true_and] at hst
      subst hst; rfl
    | some a =>
      simp only at hst
      simp only [Sem.run_bind, hst, Result.andThen_ok, Sem.run_pure]

/-- append where there is none. -/
theorem run_append_grow {t u el : TypeId} {d : TypeDesc} (ht : P.underlying t = some (.slice el)) (hu : P.underlying u = some d) (hd : isIntT d = false) {es bytes : Nat} (hn : sizeT P el = some es) (hb : bytesT P el = some bytes)
    {z : List V} (hz0 : zeroT P el = some z) (hzl : z.length = es) (hbp : 0 < bytes)
    {base : Option Addr} {len cap k : Nat} {x' : Value} {w : World}
    (hk : (Builtin.lenOf x').run P w = .ok k w) (hlt : cap < len + k) (hroom : room (len + k) bytes = true) {xs old : Array Value}
    (hxs : (Builtin.firstCells es k x').run P { w with drawn := w.drawn + 1 } = .ok xs { w with drawn := w.drawn + 1 })
    (hold : (Builtin.firstCells es len (.slice base len cap)).run P { w with drawn := w.drawn + 1 } = .ok old { w with drawn := w.drawn + 1 }) (ty : TypeId) :
    ∃ (nc : Nat) (rest : Array Value), len + k ≤ nc ∧ rest.size = (nc - (len + k)) * es ∧
      (Builtin.append_ #[t, u] ty #[.slice base len cap, x']).run P w = .ok (.slice (some ⟨w.heap.size, 0, none⟩) (len + k) nc) (({ w with drawn := w.drawn + 1 } : World).alloc (.cells (old ++ xs ++ rest) el)) := by
  obtain ⟨i, hi, hib⟩ := bytesT_ok hb
  obtain ⟨i2, zv, hi2, hzv, hrz⟩ := zeroT_ok (R := ⟨fun _ _ => none, fun _ => none, fun _ _ => none⟩) hz0
  rw [hi] at hi2
  simp only [Option.some.injEq] at hi2; subst hi2
  have hzvl : zv.cells.size = es := by
    have := hrz.length
    simp at this; omega
  have hroom' : (2 * (len + k) + 1000) * bytes ≤ 2 ^ 47 := by simpa [room] using hroom
  have hcap : ¬ Builtin.nextslicecap (len + k) cap * i.bytes > 2 ^ 48 := by
    have h1 := nextcap_le hlt
    have h2 := Nat.mul_le_mul_right bytes h1
    rw [hib]; omega
  have hneed : ¬ (((len + k : Nat) : Int) > IntKind.i64.max ∧ (False ∨ i.bytes = 0)) := by
    rintro ⟨_, h | h⟩
    · exact h
    · omega
  refine ⟨(Question.appendCap (len + k) cap el).cut (w.tape w.drawn (.appendCap (len + k) cap el)),
    Builtin.zeroCells zv.cells ((Question.appendCap (len + k) cap el).cut (w.tape w.drawn (.appendCap (len + k) cap el)) - (len + k)), ?_, ?_, ?_⟩
  · simp [Question.cut]
  · simp [Builtin.zeroCells, hzvl]
  · have hnle : ¬ len + k ≤ cap := by omega
    have hforced : (Question.appendCap (len + k) cap el).forced = false := rfl
    cases d <;> first | (simp [isIntT] at hd; done) | skip
    all_goals
      simp only [Builtin.append_, List.getElem?_toArray, List.getElem?_cons_zero, List.getElem?_cons_succ, Sem.run_bind, run_underlying ht, Result.andThen_ok, run_sizeT hn, run_underlying hu, Sem.run_pure]
      simp only [Bool.false_eq_true, if_false, Sem.run_bind, hk, Result.andThen_ok, if_neg hnle, run_infoT hi, false_or]
      rw [if_neg (by rintro ⟨_, h⟩; omega)]
      simp only [Sem.run_bind, run_infoT hi, Result.andThen_ok]
      rw [if_neg hcap]
      simp only [Sem.run_bind, run_choose, hforced, Bool.false_eq_true, if_false, Result.andThen_ok, run_infoT hi, run_askRoom, hold, Bool.not_false, if_true, hxs, run_zero hi hzv, newRow, run_newObj, Sem.run_pure]
      rfl

theorem lenOf_any {x' : Value} {k : Nat} {w : World} (h : (Builtin.lenOf x').run P w = .ok k w) (w' : World) : (Builtin.lenOf x').run P w' = .ok k w' := by
  unfold Builtin.lenOf at h ⊢
  split at h
  · simp only [Sem.run_pure, Result.ok.injEq, and_true] at h; subst h; rfl
  · simp only [Sem.run_pure, Result.ok.injEq, and_true] at h; subst h; rfl
  · simp at h

theorem append_ok {t u el : TypeId} {d : TypeDesc} (ht : P.underlying t = some (.slice el)) (hu : P.underlying u = some d) (hd : isIntT d = false) {es bytes : Nat} (hn : sizeT P el = some es) (hb : bytesT P el = some bytes)
    {z : List V} (hz0 : zeroT P el = some z) (hzl : z.length = es) (hbp : 0 < bytes)
    {s x : V} {s' x' : Value} (hs : VR R s s') (hx : VR R x x') {H H' : Heap} {v : V} (h : appendE es bytes s x H = some (v, H')) {w : World} (hrel : Rel R (H[·]?) w) (ty : TypeId) :
    ∃ v' w' R', (Builtin.append_ #[t, u] ty #[s', x']).run P w = .ok v' w' ∧ StepR R w R' w' ∧ Rel R' (H'[·]?) w' ∧ VR R' v v' ∧ StepH R H R' H' := by
  simp only [appendE, Option.bind_eq_bind, Option.bind_eq_some_iff] at h
  obtain ⟨k, hk, xs, hxs, h⟩ := h
  have hk' := lenOf_ok (P := P) hx hk w
  split at h
  case isFalse => simp at h
  case isTrue hone =>
  simp only [Bool.and_eq_true, beq_iff_eq] at hone
  obtain ⟨hone, hlen⟩ := hone
  split at h
  · rename_i hk0
    subst hk0
    obtain ⟨xs', hfx, hrx⟩ := firstCells_ok (P := P) hx hxs hrel
    have hxl : xs' = #[] := by
      have := hrx.length
      exact Array.eq_empty_of_size_eq_zero (by simp at this; omega)
    subst hxl
    have here : ∀ base len cap, len ≤ cap → (Builtin.append_ #[t, u] ty #[.slice base len cap, x']).run P w = .ok (.slice base len cap) w := by
      intro base len cap hle
      refine run_append_here (k := 0) ht hu hd hn hk' hle hfx ?_ ty
      cases base <;> rfl
    cases hs <;> simp only [Option.some.injEq, Prod.mk.injEq, reduceCtorEq] at h
    · obtain ⟨rfl, rfl⟩ := h
      rename_i a1 a2 a3 a4 a5 a6
      exact ⟨_, w, R, here _ _ _ a4, .refl R w, hrel, .slice a1 a2 a3 a4 a5 a6, .refl R H⟩
    · obtain ⟨rfl, rfl⟩ := h
      rename_i a1 a2 a3 a4
      exact ⟨_, w, R, here _ _ _ (Nat.le_refl _), .refl R w, hrel, .slice0 a1 a2 a3 a4, .refl R H⟩
    · obtain ⟨rfl, rfl⟩ := h
      exact ⟨_, w, R, here _ _ _ (Nat.le_refl _), .refl R w, hrel, .nils, .refl R H⟩
    · obtain ⟨rfl, rfl⟩ := h
      exact ⟨_, w, R, here _ _ _ (Nat.le_refl _), .refl R w, hrel, .emp0, .refl R H⟩
    · obtain ⟨rfl, rfl⟩ := h
      rename_i a1 a2
      exact ⟨_, w, R, here _ _ _ a2, .refl R w, hrel, .psl a1 a2, .refl R H⟩
  · rename_i hk0
    have hrel1 := hrel.drew (w.drawn + 1)
    obtain ⟨xs1, hfx1, hrx1⟩ := firstCells_ok (P := P) hx hxs hrel1
    have hxl1 := hrx1.length
    simp only [Array.length_toList] at hxl1
    -- a new row for old cells and the new ones
    have fresh : ∀ (base : Option Addr) (len cap : Nat) (old : List V) (old' : Array Value), cap < len + k → room (len + k) bytes = true → (Builtin.firstCells es len (.slice base len cap)).run P { w with drawn := w.drawn + 1 } = .ok old' { w with drawn := w.drawn + 1 } →
        VRL R old old'.toList → old.all V.one = true → old.length = len * es →
        ∃ v' w' R', (Builtin.append_ #[t, u] ty #[.slice base len cap, x']).run P w = .ok v' w' ∧ StepR R w R' w' ∧ Rel R' ((H ++ [.cells (old ++ xs) 0 0])[·]?) w' ∧ VR R' (.slice H.length 0 0 (len + k) es none) v' ∧ StepH R H R' (H ++ [.cells (old ++ xs) 0 0]) := by
      intro base len cap old old' hlt hroom hold hro hoone holen
      obtain ⟨nc, rest, hnc, hrs, hrun⟩ := run_append_grow ht hu hd hn hb hz0 hzl hbp hk' hlt hroom hfx1 hold ty
      have hrol := hro.length
      simp only [Array.length_toList] at hrol
      have hnone := hrel1.none_of_get (b := H.length) (by simp)
      have hmul : (len + k) * es = len * es + k * es := Nat.add_mul _ _ _
      have hsz : (old' ++ xs1 ++ rest).size = nc * es := by
        have : (len + k) * es + (nc - (len + k)) * es = nc * es := by rw [← Nat.add_mul]; congr 1; omega
        simp only [Array.size_append]; omega
      have hcl : (old ++ xs).length = (len + k) * es := by simp; omega
      have hle : (len + k) * es ≤ nc * es := Nat.mul_le_mul_right _ hnc
      obtain ⟨r1, r2⟩ := hrel1.alloc (b := H.length) (g' := ((H ++ [.cells (old ++ xs) 0 0])[·]?)) (cs := old ++ xs) (c := old' ++ xs1 ++ rest) (t := el) hnone.1 hnone.2 (by simp)
        (by
          intro q hq hdom
          have hql : q < H.length := by
            rcases hdom with ⟨v, L, hv⟩ | ⟨r, hr⟩
            · obtain ⟨l, ver, mn, c, t, hg, _⟩ := hrel1.loc q v L hv
              exact (List.getElem?_eq_some_iff.1 hg).1
            · obtain ⟨es0, c0, es1, hg, _⟩ := hrel1.mp q r hr
              exact (List.getElem?_eq_some_iff.1 hg).1
          simp [List.getElem?_append_left hql])
        (by rw [List.all_append, hoone, hone]; rfl) (by omega) (by
          have : ((old' ++ xs1 ++ rest).toList.take (old ++ xs).length) = old'.toList ++ xs1.toList := by
            simp only [Array.toList_append]
            rw [List.take_append_of_le_length (by simp; omega), List.take_of_length_le (by simp; omega)]
          rw [this]
          exact hro.append hrx1)
      refine ⟨_, _, _, hrun, (StepR.drew R w (w.drawn + 1)).trans r2, r1, ?_, .push _ fun b hb => Ren.addLoc_dom hb⟩
      refine VR.slice (Ren.addLoc_self _ _ _ _) (Nat.zero_le _) ?_ hnc (by simp) ?_
      · dsimp only; omega
      · intro _; dsimp only; omega
    cases hs <;> (try (simp only [reduceCtorEq] at h; done))
    · rename_i b v0 off len es' c cap L a1 a2 a3 a4 a5 a6
      cases cap with
      | none =>
        simp only at h
        split at h
        · rename_i l ver mn hg
          split at h
          · rename_i hc
            obtain ⟨rfl, rfl, hmn, hend, hroom⟩ := hc
            simp only [Option.some.injEq, Prod.mk.injEq] at h
            obtain ⟨rfl, rfl⟩ := h
            have hcap := a6 rfl
            by_cases hroomy : len + k ≤ c
            · obtain ⟨xs', hfx, hrx⟩ := firstCells_ok (P := P) hx hxs hrel
              have hmul : (len + k) * es = len * es + k * es := Nat.add_mul _ _ _
              have hle : (len + k) * es ≤ c * es := Nat.mul_le_mul_right _ hroomy
              obtain ⟨R', w', hR', hst, r1, r2⟩ := hrel.growHere (P := P) a1 hg hone hmn (by omega) hrx
              have hsh : StepH R H R' (H.set b (.cells (l ++ xs) (v0 + 1) mn)) := (StepH.set (.inl ⟨v0, L, a1⟩) _).mono fun k hk => by
                subst hR'
                rcases Ren.addLoc_dom hk with h1 | rfl
                · exact .inl h1
                · exact .inl (.inl ⟨v0, L, a1⟩)
              refine ⟨.slice (some ⟨L.r, off - L.lo, none⟩) (len + k) c, w', R', ?_, r2, r1, ?_, hsh⟩
              · refine run_append_here ht hu hd hn hk' hroomy hfx ?_ ty
                simp only [addr_add]
                rw [show off - L.lo + len * es = l.length - L.lo by omega]
                exact hst
              · subst hR'
                have := VR.slice (R := R.addLoc b (v0 + 1) ⟨L.r, L.lo, l.length + xs.length, L.n⟩) (off := off) (len := len + k) (es := es) (c := c) (cap := none) (Ren.addLoc_self _ _ _ _) a2 (by dsimp only; omega) hroomy (by simp) (by intro _; dsimp only; omega)
                exact this
            · obtain ⟨old', hfo, hro⟩ := firstCells_ok (P := P) (VR.slice a1 a2 a3 a4 a5 a6) (es := es) (n := len) (cs := l.drop off) (H := H) (by
                simp only [firstE, readCells, hg]
                rw [if_pos ⟨trivial, Nat.le_refl _⟩, if_pos ⟨hmn, by omega⟩, List.take_of_length_le (by simp; omega)]) hrel1
              obtain ⟨nc, rest, hnc, hrs, hrun⟩ := run_append_grow ht hu hd hn hb hz0 hzl hbp hk' (by omega) hroom hfx1 hfo ty
              have hrol := hro.length
              simp only [Array.length_toList, List.length_drop] at hrol
              have hmul : (len + k) * es = len * es + k * es := Nat.add_mul _ _ _
              have hsz : (old' ++ xs1 ++ rest).size = nc * es := by
                have : (len + k) * es + (nc - (len + k)) * es = nc * es := by rw [← Nat.add_mul]; congr 1; omega
                simp only [Array.size_append]; omega
              have hle : (len + k) * es ≤ nc * es := Nat.mul_le_mul_right _ hnc
              obtain ⟨R', hR', r1, r2⟩ := hrel1.growNew (c := old' ++ xs1 ++ rest) (t := el) a1 hg a2 (by omega) hone hmn (by omega) (by
                have : ((old' ++ xs1 ++ rest).toList.take (l.length - off + xs.length)) = old'.toList ++ xs1.toList := by
                  simp only [Array.toList_append]
                  rw [List.take_append_of_le_length (by simp; omega), List.take_of_length_le (by simp; omega)]
                rw [this]
                exact hro.append hrx1)
              refine ⟨_, _, R', hrun, (StepR.drew R w (w.drawn + 1)).trans r2, r1, ?_, (StepH.set (.inl ⟨v0, L, a1⟩) _).mono fun k hk => by
                  subst hR'
                  rcases Ren.addLoc_dom hk with h1 | rfl
                  · exact .inl h1
                  · exact .inl (.inl ⟨v0, L, a1⟩)⟩
              subst hR'
              have := VR.slice (R := R.addLoc b (v0 + 1) ⟨w.heap.size, off, l.length + xs.length, (old' ++ xs1 ++ rest).size⟩) (off := off) (len := len + k) (es := es) (c := nc) (cap := none) (Ren.addLoc_self _ _ _ _) (Nat.le_refl _) (by dsimp only; omega) hnc (by simp) (by intro _; dsimp only; omega)
              simpa using this
          · simp at h
        · simp at h
      | some c0 =>
        simp only at h
        split at h
        · simp at h
        · rename_i hlt
          split at h
          · rename_i old hold
            split at h
            · rename_i hc
              simp only [Bool.and_eq_true, beq_iff_eq] at hc
              simp only [Option.some.injEq, Prod.mk.injEq] at h
              obtain ⟨rfl, rfl⟩ := h
              have hcc := a5 c0 rfl
              obtain ⟨old', hfo, hro⟩ := firstCells_ok (P := P) (VR.slice a1 a2 a3 a4 a5 a6) hold hrel1
              exact fresh _ _ _ old old' (by omega) hc.2 hfo hro hc.1.1 hc.1.2
            · simp at h
          · simp at h
    · rename_i b v0 off es' r o cap L a1 a2 a3 a4
      cases cap with
      | none =>
        simp only at h
        split at h
        · rename_i l ver mn hg
          split at h
          · rename_i hc
            obtain ⟨rfl, rfl, hmn, hend, hroom⟩ := hc
            simp only [Option.some.injEq, Prod.mk.injEq] at h
            obtain ⟨rfl, rfl⟩ := h
            have hfo : (Builtin.firstCells es 0 (.slice (some ⟨r, o, none⟩) 0 0)).run P { w with drawn := w.drawn + 1 } = .ok #[] { w with drawn := w.drawn + 1 } := by
              simp [Builtin.firstCells, loadCells, loadCellsFrom]
            obtain ⟨nc, rest, hnc, hrs, hrun⟩ := run_append_grow ht hu hd hn hb hz0 hzl hbp hk' (by omega) hroom hfx1 hfo ty
            have hsz : (#[] ++ xs1 ++ rest).size = nc * es := by
              have : (0 + k) * es + (nc - (0 + k)) * es = nc * es := by rw [← Nat.add_mul]; congr 1; omega
              have h0 : (0 + k) * es = k * es := by rw [Nat.zero_add]
              simp only [Array.size_append]
              have : (#[] : Array Value).size = 0 := rfl
              omega
            have hle : (0 + k) * es ≤ nc * es := Nat.mul_le_mul_right _ hnc
            have h0 : (0 + k) * es = k * es := by rw [Nat.zero_add]
            have hdrop : l.drop off = [] := List.drop_of_length_le (by omega)
            obtain ⟨R', hR', r1, r2⟩ := hrel1.growNew (c := #[] ++ xs1 ++ rest) (t := el) (off := off) a1 hg a2 (by omega) hone hmn (by omega) (by
              have : ((#[] ++ xs1 ++ rest).toList.take (l.length - off + xs.length)) = xs1.toList := by
                simp only [Array.toList_append, List.nil_append]
                rw [List.take_append_of_le_length (by simp; omega), List.take_of_length_le (by simp; omega)]
              rw [this, hdrop]
              exact hrx1)
            refine ⟨_, _, R', hrun, (StepR.drew R w (w.drawn + 1)).trans r2, r1, ?_, (StepH.set (.inl ⟨v0, L, a1⟩) _).mono fun k hk => by
                  subst hR'
                  rcases Ren.addLoc_dom hk with h1 | rfl
                  · exact .inl h1
                  · exact .inl (.inl ⟨v0, L, a1⟩)⟩
            subst hR'
            have := VR.slice (R := R.addLoc b (v0 + 1) ⟨w.heap.size, off, l.length + xs.length, (#[] ++ xs1 ++ rest).size⟩) (off := off) (len := 0 + k) (es := es) (c := nc) (cap := none) (Ren.addLoc_self _ _ _ _) (Nat.le_refl _) (by dsimp only; omega) hnc (by simp) (by intro _; dsimp only; omega)
            simpa using this
          · simp at h
        · simp at h
      | some c0 =>
        have hc0 := a4 c0 rfl
        subst hc0
        simp only at h
        split at h
        · simp at h
        · rename_i hlt
          split at h
          · rename_i old hold
            split at h
            · rename_i hc
              simp only [Bool.and_eq_true, beq_iff_eq] at hc
              simp only [Option.some.injEq, Prod.mk.injEq] at h
              obtain ⟨rfl, rfl⟩ := h
              obtain ⟨old', hfo, hro⟩ := firstCells_ok (P := P) (VR.slice0 (r := r) (o := o) a1 a2 a3 a4) hold hrel1
              exact fresh _ _ _ old old' (by omega) hc.2 hfo hro hc.1.1 hc.1.2
            · simp at h
          · simp at h
    · simp only at h
      split at h
      · rename_i hroom
        simp only [Option.some.injEq, Prod.mk.injEq] at h
        obtain ⟨rfl, rfl⟩ := h
        have := fresh none 0 0 [] #[] (by omega) hroom rfl .nil rfl (by simp)
        simpa using this
      · simp at h
    · rename_i r o
      simp only at h
      split at h
      · rename_i hroom
        simp only [Option.some.injEq, Prod.mk.injEq] at h
        obtain ⟨rfl, rfl⟩ := h
        have := fresh (some ⟨r, o, none⟩) 0 0 [] #[] (by omega) hroom (by simp [Builtin.firstCells, loadCells, loadCellsFrom]) .nil rfl (by simp)
        simpa using this
      · simp at h

end
end Go.PE
