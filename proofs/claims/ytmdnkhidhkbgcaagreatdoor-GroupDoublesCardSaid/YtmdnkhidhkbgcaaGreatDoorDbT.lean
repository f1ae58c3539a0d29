/- GroupDoubles' call, at every input: it returns true, and nothing that was there turns; the numbers to be picked as a caller hands them in. -/
import Derived.Test.YtmdnkhidhkbgcaaGreatDoorDbG0
import Derived.Test.YtmdnkhidhkbgcaaGreatDoorDbG1
import Derived.Test.YtmdnkhidhkbgcaaGreatDoorDbG2
import Derived.Test.YtmdnkhidhkbgcaaGreatDoorDbG3
import Derived.KernelRfl
namespace Go.PE
open Go.Proofs Go.RowKit
set_option maxRecDepth 100000
theorem known_run : rKn = some (true, []) := by kernel_rfl
theorem db_lit : cFunc Tryz.prog Tryz.f5 = some lit5 := by
  have h := lit5_ok
  unfold funcE at h
  split at h
  · rw [show Tryz.prog.funcs[5]? = some Tryz.f5 from Tryz.func5] at h; exact h
  · simp at h
structure Smalls (n : Nat) (pv : V) : Prop where
  len : lenK false pv = some n
  firm : V.firm pv = true
  el : ∀ a : Nat, a < n → ∃ q, q < 256 ∧ indexAddrSlE 1 pv (iN a) = some (.pptr [bN q])
theorem Smalls.nil : Smalls 0 .nils := ⟨rfl, rfl, fun a h => absurd h (by omega)⟩
theorem plain_u8 (zs : List Int) : V.plainL (zs.map fun n => V.int .u8 n) = true := by
  induction zs with
  | nil => rfl
  | cons a l ih => exact ih
theorem Smalls.psl {zs : List Int} {L : Nat} (hz : zs.length = L) (hb : ∀ n ∈ zs, 0 ≤ n ∧ n < 256) : Smalls L (.psl L (zs.map fun n => V.int .u8 n)) := by
  refine ⟨rfl, plain_u8 zs, fun a ha => ?_⟩
  have hi' : a < zs.length := by omega
  obtain ⟨h0, h1⟩ := hb zs[a] (List.getElem_mem hi')
  refine ⟨zs[a].toNat, by omega, ?_⟩
  show (if 0 ≤ (a : Int) ∧ (a : Int) < (L : Int) then some (V.pptr (((zs.map fun n => V.int .u8 n).drop ((a : Int).toNat * 1)).take 1)) else none) = _
  rw [if_pos ⟨by omega, by omega⟩, Nat.mul_one, Int.toNat_natCast, List.drop_eq_getElem_cons (by simpa using hi'), List.take_succ_cons, List.take_zero, List.getElem_map]
  show some (V.pptr [V.int .u8 zs[a]]) = some (V.pptr [V.int .u8 ((zs[a].toNat : Nat) : Int)])
  rw [Int.toNat_of_nonneg h0]
theorem VR.smalls {W : World} {b o n c : Nat} {zs : List Int} (hn : n ≤ c) (hl : ∀ i, i < zs.length → W.cell? ⟨b, o + i, none⟩ = some (.int .u8 (zs.getD i 0))) : VR (Ren.view W) (.psl n (zs.map fun n => V.int .u8 n)) (.slice (some ⟨b, o, none⟩) n c) := by
  refine .psl (fun j x hx => ?_) hn
  rw [List.getElem?_map, Option.map_eq_some_iff] at hx
  obtain ⟨z, hz, rfl⟩ := hx
  obtain ⟨hj, rfl⟩ := List.getElem?_eq_some_iff.1 hz
  have h := hl j hj
  rw [show zs.getD j 0 = zs[j] by simp [List.getD, hz]] at h
  unfold World.cell? at h
  simp only [Ren.view]
  split at h
  · rename_i c _ _ hb
    rw [hb]
    simp only [Option.isSome_none, Bool.false_eq_true, if_false] at h
    simp only [h, Option.bind_some, absOf]
  · simp at h
def Goes (args : Array Value) (W : World) : Prop := Calls Tryz.prog 5 args W fun e W' => e = .returned (.bool true) ∧ Below W.heap.size W W'
theorem db_calls {args : List V} {args' : Array Value} {W : World} (hargs : VRL (Ren.view W) args args'.toList) (hlen : args.length = 3)
    (h : ∃ e' H', GoodE Tryz.prog (Ren.view W).strs lit5.body (args ++ List.replicate 175 V.undef) [] .ret e' H' ∧ e'.getD 6 V.undef = .bool true) : Goes args' W := by
  obtain ⟨e', H', q1, q2⟩ := h
  refine good_callsR (fn := Tryz.f5) (ef := lit5) (t := 6) Tryz.func5 db_lit rfl (R := Ren.view W) (H' := H') (fun _ _ => rfl) (fun _ => rfl) hargs (Rel.view _ W) (by rw [hlen]; decide) (.inr rfl) ?_ q2
  rw [hlen]
  exact q1
theorem db_long {S : Nat → Option ByteArray} {n : Nat} {a b pv : V} (hs : Smalls n pv) (hn : 100 < n) (ha : V.firm a = true) (hb : V.firm b = true) : ∃ e' H', GoodE Tryz.prog S lit5.body ([a, b, pv] ++ List.replicate 175 V.undef) [] .ret e' H' ∧ e'.getD 6 V.undef = .bool true := by
  rw [db_body]
  generalize he0 : ([a, b, pv] ++ List.replicate 175 V.undef : Env) = e0
  have l0 : e0.length = 178 := by rw [← he0]; rfl
  have f0 : Firm 7 e0 := by
    intro t h μ
    rcases bit7 h with rfl | rfl | rfl
    · rw [← he0]; exact firm_mv ha μ
    · rw [← he0]; exact firm_mv hb μ
    · rw [← he0]; exact firm_mv hs.firm μ
  obtain ⟨e01, L1, μ1, e1, q1, l1, k1, q6⟩ := db_first known_run l0 f0
  have k12 : e1.getD 2 V.undef = pv := (k1 2 (by decide)).trans (by rw [← he0]; rfl)
  obtain ⟨e2, _, r1, rfl, r2, r3⟩ := (cL_run (X := lawD 40) (H := []) l1 k12 hs.len).code (fuel := 3000)
  have gL : GoodE Tryz.prog S dbL e1 [] .ret (e2.set 6 (.bool true)) [] := good_seq (good_eval tryzMixed (lawD_ok 40) 3000 r1) (good_cond r3 (by
    rw [if_pos (decide_eq_true hn)]
    exact good_eval tryzMixed (lawD_ok 40) 3000 rfl))
  exact ⟨_, _, good_app tryzMixed (lawD_ok 40) dbP q1 (good_inM q6 (good_seq_out (by simp) gL)), getD_put (by rw [r2.1]; decide)⟩
theorem law_calls {a b : Int} (ha : 0 ≤ a ∧ a < 256) (hb : 0 ≤ b ∧ b < 256) {pv : V} {L : Nat} (hp : Smalls L pv) {W : World} {x : Value} (hx : VR (Ren.view W) pv x) : Goes #[.int .u8 a, .int .u8 b, x] W := by
  by_cases hn : 100 < L
  · exact db_calls (args := [.int .u8 a, .int .u8 b, pv]) (.cons (.int .u8 a) (.cons (.int .u8 b) (.cons hx .nil))) rfl (db_long hp hn rfl rfl)
  have hpk : Picks L pv := ⟨hp.len, by omega, hp.firm, hp.el⟩
  obtain ⟨r, hr, hbr⟩ : ∃ r : Nat, r < 9 ∧ b % 9 = (r : Int) := ⟨(b % 9).toNat, by omega, by omega⟩
  have hg : a % 4 = 0 ∨ a % 4 = 1 ∨ a % 4 = 2 ∨ a % 4 = 3 := by omega
  rcases hg with g | g | g | g
  · exact db_calls (.cons (modV_ok ha.1 ha.2 (by decide) g) (.cons (modV_ok hb.1 hb.2 (by decide) hbr) (.cons hx .nil))) rfl (db_all Db0.net hpk hr known_run Db0.begun Db0.asked Db0.ended)
  · exact db_calls (.cons (modV_ok ha.1 ha.2 (by decide) g) (.cons (modV_ok hb.1 hb.2 (by decide) hbr) (.cons hx .nil))) rfl (db_all Db1.net hpk hr known_run Db1.begun Db1.asked Db1.ended)
  · exact db_calls (.cons (modV_ok ha.1 ha.2 (by decide) g) (.cons (modV_ok hb.1 hb.2 (by decide) hbr) (.cons hx .nil))) rfl (db_all Db2.net hpk hr known_run Db2.begun Db2.asked Db2.ended)
  · exact db_calls (.cons (modV_ok ha.1 ha.2 (by decide) g) (.cons (modV_ok hb.1 hb.2 (by decide) hbr) (.cons hx .nil))) rfl (db_all Db3.net hpk hr known_run Db3.begun Db3.asked Db3.ended)
end Go.PE
