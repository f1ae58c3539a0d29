/- copy, clear, and one law for the operations that write. Nothing of a program stands here. -/
import Derived.Test.YtbpkjhamidpoeaaGreatDoorE15
namespace Go.PE

def EOp.isWrite : EOp → Bool
  | .store .. | .mapUpd .. | .append .. | .copy .. | .clear .. => true
  | _ => false

section
variable {P : Program} {R : Ren}

theorem storeCells_nil (a : Addr) (w : World) : (storeCells a ([] : List Value)).run P w = .ok () w := rfl

theorem copy_ok {ats : Array TypeId} {t el : TypeId} (hat : ats[0]? = some t) (ht : P.underlying t = some (.slice el)) {es : Nat} (hn : sizeT P el = some es) {d x : V} {d' x' : Value} (hd : VR R d d') (hx : VR R x x')
    {H H' : Heap} {v : V} (h : copyE es d x H = some (v, H')) {w : World} (hrel : Rel R (H[·]?) w) (ty : TypeId) :
    ∃ v' w' R', (Builtin.copy_ ats ty #[d', x']).run P w = .ok v' w' ∧ StepR R w R' w' ∧ Rel R' (H'[·]?) w' ∧ VR R' v v' ∧ StepH R H R' H' := by
  unfold copyE at h
  split at h
  · simp at h
  rename_i k hk
  have hk' := lenOf_ok (P := P) hx hk w
  have run : ∀ (base : Option Addr) (len c : Nat) (xs : Array Value) (w' : World), (Builtin.firstCells es (Nat.min k len) x').run P w = .ok xs w → (match base with | some a => storeCells a xs.toList | none => pure () : Sem Unit).run P w = .ok () w' →
      (Builtin.copy_ ats ty #[.slice base len c, x']).run P w = .ok (goInt (Nat.min k len)) w' := by
    intro base len c xs w' h1 h2
    simp only [Builtin.copy_, hat, List.getElem?_toArray, List.getElem?_cons_zero, List.getElem?_cons_succ, Sem.run_bind, run_underlying ht, Result.andThen_ok, hk', run_sizeT hn, h1]
    cases base with
    | none =>
      simp only [Sem.run_pure, Result.ok.injEq, true_and] at h2
      subst h2; rfl
    | some a =>
      simp only at h2
      simp only [Sem.run_bind, h2, Result.andThen_ok, Sem.run_pure]
  have fc0 : ∀ n, n = 0 → ∃ xs : Array Value, (Builtin.firstCells es n x').run P w = .ok xs w ∧ xs.toList = [] := by
    rintro n rfl
    rcases lenE_ok hx hk with ⟨s, rfl, rfl, rfl⟩ | ⟨q, c, rfl⟩
    · refine ⟨_, rfl, ?_⟩
      have hd0 : (s.extract 0 0).data.toList = [] := by rw [← subStr_eq]; simp [subStr]
      rw [Array.toList_map, hd0]; rfl
    · cases q with
      | none => exact ⟨#[], rfl, rfl⟩
      | some q => exact ⟨#[], by simp [Builtin.firstCells, loadCells, loadCellsFrom], rfl⟩
  have zero : ∀ (base : Option Addr) (len c : Nat), Nat.min k len = 0 → (Builtin.copy_ ats ty #[.slice base len c, x']).run P w = .ok (goInt 0) w := by
    intro base len c h0
    obtain ⟨xs, h1, h2⟩ := fc0 (Nat.min k len) h0
    have := run base len c xs w h1 (by rw [h2]; cases base <;> rfl)
    rw [h0] at this
    exact this
  cases hd <;> (try (simp only [reduceCtorEq] at h; done))
  · rename_i b v0 off len es' c cap L a1 a2 a3 a4 a5 a6
    simp only at h
    split at h
    · rename_i xs hxs
      split at h
      · rename_i hc
        obtain ⟨rfl, hxl⟩ := hc
        split at h
        · rename_i h0
          simp only [Option.some.injEq, Prod.mk.injEq] at h
          obtain ⟨rfl, rfl⟩ := h
          exact ⟨_, w, R, zero _ _ _ h0, .refl R w, hrel, .int _ _, .refl R H⟩
        · rw [Option.map_eq_some_iff] at h
          obtain ⟨H1, hw1, h⟩ := h
          simp only [Prod.mk.injEq] at h
          obtain ⟨rfl, rfl⟩ := h
          obtain ⟨xs', hfx, hrx⟩ := firstCells_ok (P := P) hx hxs hrel
          have hmul : min k len * es ≤ len * es := Nat.mul_le_mul_right _ (by omega)
          obtain ⟨w', h1, h2, h3⟩ := hrel.write (P := P) a1 a2 (by omega) hrx hw1
          exact ⟨_, w', R, run _ _ _ xs' w' hfx h1, h2, h3, .int _ _, writeCells_step hw1 (.inl ⟨v0, L, a1⟩)⟩
      · simp at h
    · simp at h
  · rename_i b v0 off es' r o cap L a1 a2 a3 a4
    simp only at h
    split at h
    · split at h
      · rw [if_pos (by omega)] at h
        simp only [Option.some.injEq, Prod.mk.injEq] at h
        obtain ⟨rfl, rfl⟩ := h
        exact ⟨_, w, R, zero _ _ _ (Nat.min_zero k), .refl R w, hrel, .int _ _, .refl R H⟩
      · simp at h
    · simp at h
  · simp only [Option.some.injEq, Prod.mk.injEq] at h
    obtain ⟨rfl, rfl⟩ := h
    exact ⟨_, w, R, zero _ _ _ (Nat.min_zero k), .refl R w, hrel, .int _ _, .refl R H⟩
  · simp only [Option.some.injEq, Prod.mk.injEq] at h
    obtain ⟨rfl, rfl⟩ := h
    exact ⟨_, w, R, zero _ _ _ (Nat.min_zero k), .refl R w, hrel, .int _ _, .refl R H⟩

theorem zeroCells_ok {z : List V} {zs : Array Value} (h : VRL R z zs.toList) (n : Nat) : VRL R (repeatL z n) (Builtin.zeroCells zs n).toList := repeat_ok h n

theorem clear_ok {t el : TypeId} (ht : P.underlying t = some (.slice el)) {es : Nat} {z : List V} (hz : zeroT P el = some z) {d : V} {d' : Value} (hd : VR R d d')
    {H H' : Heap} {v : V} (h : clearE z es d H = some (v, H')) {w : World} (hrel : Rel R (H[·]?) w) (ty : TypeId) :
    ∃ v' w' R', (Builtin.clear_ #[t] ty #[d']).run P w = .ok v' w' ∧ StepR R w R' w' ∧ Rel R' (H'[·]?) w' ∧ VR R' v v' ∧ StepH R H R' H' := by
  obtain ⟨i, zv, hi, hzv, hrz⟩ := zeroT_ok (R := R) hz
  have run0 : ∀ q c, (Builtin.clear_ #[t] ty #[.slice q 0 c]).run P w = .ok (.tuple #[]) w := by
    intro q c
    cases q <;> simp [Builtin.clear_, run_underlying ht]
  have runn : ∀ q, (Builtin.clear_ #[t] ty #[.slice none q 0]).run P w = .ok (.tuple #[]) w := by
    intro q
    simp [Builtin.clear_, run_underlying ht]
  cases hd <;> (try (simp only [clearE, reduceCtorEq] at h; done))
  · rename_i b v0 off len es' c cap L a1 a2 a3 a4 a5 a6
    cases len with
    | zero =>
      simp only [clearE, Option.some.injEq, Prod.mk.injEq] at h
      obtain ⟨rfl, rfl⟩ := h
      exact ⟨_, w, R, run0 _ _, .refl R w, hrel, .tup .nil, .refl R H⟩
    | succ len =>
      simp only [clearE] at h
      split at h
      · rename_i hc
        obtain ⟨rfl, hzl⟩ := hc
        rw [Option.map_eq_some_iff] at h
        obtain ⟨H1, hw1, h⟩ := h
        simp only [Prod.mk.injEq] at h
        obtain ⟨rfl, rfl⟩ := h
        have hrep := zeroCells_ok hrz (len + 1)
        obtain ⟨w', h1, h2, h3⟩ := hrel.write (P := P) a1 a2 (by rw [length_repeatL, hzl]; exact a3) hrep hw1
        refine ⟨_, w', R, ?_, h2, h3, .tup .nil, writeCells_step hw1 (.inl ⟨v0, L, a1⟩)⟩
        simp [Builtin.clear_, run_underlying ht, run_zero hi hzv, h1]
      · simp at h
  · simp only [clearE, Option.some.injEq, Prod.mk.injEq] at h
    obtain ⟨rfl, rfl⟩ := h
    exact ⟨_, w, R, run0 _ _, .refl R w, hrel, .tup .nil, .refl R H⟩
  · simp only [clearE, Option.some.injEq, Prod.mk.injEq] at h
    obtain ⟨rfl, rfl⟩ := h
    exact ⟨_, w, R, runn _, .refl R w, hrel, .tup .nil, .refl R H⟩
  · simp only [clearE, Option.some.injEq, Prod.mk.injEq] at h
    obtain ⟨rfl, rfl⟩ := h
    exact ⟨_, w, R, run0 _ _, .refl R w, hrel, .tup .nil, .refl R H⟩

end
end Go.PE
