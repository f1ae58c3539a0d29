/- strings.Repeat as a shortcut: the kit's contract, laid at this program. -/
import Derived.Shelf.Strings.Repeat
import Derived.Ground.NamesProg
import Derived.Test.YtmdnkhidhkbgcaaGreatDoorProg
import Derived.Test.YtmdnkhidhkbgcaaGreatDoorEF
import Derived.KernelRfl
namespace Go.Proofs
open Go.Shelf Go.RowKit
def Tryz.laysRepeat_ren : Go.Shelf.Ren := ⟨fun | 105 => 197 | 212 => 201 | 99 => 202 | 165 => 203 | 166 => 204 | 170 => 205 | 169 => 206 | 263 => 212 | 264 => 213 | 206 => 214 | 240 => 215 | 241 => 216 | 276 => 222 | 277 => 223 | n => n, fun | 9 => 9 | 3 => 3 | 4 => 4 | 20 => 20 | 0 => 0 | 46 => 163 | 109 => 256 | 5 => 5 | 72 => 261 | 76 => 264 | 51 => 31 | 146 => 70 | 53 => 148 | 148 => 272 | 70 => 259 | 37 => 23 | 75 => 263 | 127 => 274 | 164 => 281 | 80 => 266 | n => n, fun | n => n⟩
theorem Tryz.laysRepeat : Lays.n105 Tryz.prog Tryz.laysRepeat_ren where
  mixed := by kernel_rfl
  f99 := Tryz.func202.trans (congrArg some (by kernel_rfl))
  f105 := Tryz.func197.trans (congrArg some (by kernel_rfl))
  f165 := Tryz.func203.trans (congrArg some (by kernel_rfl))
  f166 := Tryz.func204.trans (congrArg some (by kernel_rfl))
  f169 := Tryz.func206.trans (congrArg some (by kernel_rfl))
  f170 := Tryz.func205.trans (congrArg some (by kernel_rfl))
  f206 := Tryz.func214.trans (congrArg some (by kernel_rfl))
  f212 := Tryz.func201.trans (congrArg some (by kernel_rfl))
  f240 := Tryz.func215.trans (congrArg some (by kernel_rfl))
  f241 := Tryz.func216.trans (congrArg some (by kernel_rfl))
  f263 := Tryz.func212.trans (congrArg some (by kernel_rfl))
  f264 := Tryz.func213.trans (congrArg some (by kernel_rfl))
  f276 := Tryz.func222.trans (congrArg some (by kernel_rfl))
  f277 := Tryz.func223.trans (congrArg some (by kernel_rfl))
  t0 := Tryz.underlying0
  a0 := Tryz.isAgg0
  z0 := Tryz.sizeOf0
  v0 := Tryz.zeroValue0
  t3 := Tryz.underlying3
  a3 := Tryz.isAgg3
  z3 := Tryz.sizeOf3
  v3 := Tryz.zeroValue3
  t4 := Tryz.underlying4
  a4 := Tryz.isAgg4
  z4 := Tryz.sizeOf4
  v4 := Tryz.zeroValue4
  t5 := Tryz.underlying5
  a5 := Tryz.isAgg5
  z5 := Tryz.sizeOf5
  v5 := Tryz.zeroValue5
  t9 := Tryz.underlying9
  a9 := Tryz.isAgg9
  z9 := Tryz.sizeOf9
  v9 := Tryz.zeroValue9
  t20 := Tryz.underlying20
  a20 := Tryz.isAgg20
  z20 := Tryz.sizeOf20
  v20 := Tryz.zeroValue20
  t37 := Tryz.underlying23
  a37 := Tryz.isAgg23
  z37 := Tryz.sizeOf23
  v37 := Tryz.zeroValue23
  t46 := Tryz.underlying163
  a46 := Tryz.isAgg163
  z46 := Tryz.sizeOf163
  v46 := Tryz.zeroValue163
  t51 := Tryz.underlying31
  a51 := Tryz.isAgg31
  z51 := Tryz.sizeOf31
  v51 := Tryz.zeroValue31
  t53 := Tryz.underlying148
  a53 := Tryz.isAgg148
  z53 := Tryz.sizeOf148
  v53 := Tryz.zeroValue148
  t70 := Tryz.underlying259
  a70 := Tryz.isAgg259
  z70 := Tryz.sizeOf259
  v70 := Tryz.zeroValue259
  t72 := Tryz.underlying261
  a72 := Tryz.isAgg261
  z72 := Tryz.sizeOf261
  v72 := Tryz.zeroValue261
  t75 := Tryz.underlying263
  a75 := Tryz.isAgg263
  z75 := Tryz.sizeOf263
  v75 := Tryz.zeroValue263
  t76 := Tryz.underlying264
  a76 := Tryz.isAgg264
  z76 := Tryz.sizeOf264
  v76 := Tryz.zeroValue264
  t109 := Tryz.underlying256
  a109 := Tryz.isAgg256
  z109 := Tryz.sizeOf256
  v109 := Tryz.zeroValue256
  t127 := Tryz.underlying274
  a127 := Tryz.isAgg274
  z127 := Tryz.sizeOf274
  v127 := Tryz.zeroValue274
  t146 := Tryz.underlying70
  a146 := Tryz.isAgg70
  z146 := Tryz.sizeOf70
  v146 := Tryz.zeroValue70
  t148 := Tryz.underlying272
  a148 := Tryz.isAgg272
  z148 := Tryz.sizeOf272
  v148 := Tryz.zeroValue272
  t164 := Tryz.underlying281
  a164 := Tryz.isAgg281
  z164 := Tryz.sizeOf281
  v164 := Tryz.zeroValue281
theorem Tryz.repExtra : Builder.Extra Tryz.prog Tryz.laysRepeat_ren where
  sizeBuilder := by kernel_rfl
  liesBuilder := by kernel_rfl
  t5 := Tryz.laysRepeat.t5
  a5 := Tryz.laysRepeat.a5
  z5 := Tryz.laysRepeat.z5
  v5 := Tryz.laysRepeat.v5
  infoByte := by kernel_rfl
  cellsByte := by kernel_rfl
  sizeByte := by kernel_rfl
  neB5 := by decide
theorem Tryz.fRepeat : Tryz.laysRepeat_ren.f 105 = 197 := by kernel_rfl
end Go.Proofs
namespace Go.PE
open Go.Proofs Go.RowKit
def repV : List V → Option V
  | [.str s, .int .i64 n] => if 0 ≤ n ∧ n ≤ 4096 ∧ s.size ≤ 4096 then some (.str ⟨(Lib.repeatL s.data.toList n.toNat).toArray⟩) else none
  | _ => none
theorem callableRep : callable Tryz.prog 197 = true := by kernel_rfl
theorem rep_ok : CallOK Tryz.prog 197 fun args H => (repV args).map fun v => (v, H) := by
  intro R H H' w args args' v h hargs hrel
  refine ⟨callableRep, ?_⟩
  rw [Option.map_eq_some_iff] at h
  obtain ⟨v1, h1, h2⟩ := h
  simp only [Prod.mk.injEq] at h2
  obtain ⟨rfl, rfl⟩ := h2
  unfold repV at h1
  split at h1
  · rename_i s n
    split at h1
    · rename_i hc
      obtain ⟨c1, c2, c3⟩ := hc
      simp only [Option.some.injEq] at h1; subst h1
      obtain rfl : args' = #[.string s, .int .i64 n] := by
        obtain ⟨l⟩ := args'
        cases hargs with
        | cons x1 r1 =>
          cases r1 with
          | cons x2 r2 =>
            cases r2
            cases x1
            cases x2
            rfl
      obtain ⟨c, rfl⟩ : ∃ c : Nat, n = (c : Int) := ⟨n.toNat, by omega⟩
      have hb : s.size * c ≤ 140737488355328 := Nat.le_trans (Nat.mul_le_mul c3 (show c ≤ 4096 by omega)) (by decide)
      have hR := Any.strings_Repeat Tryz.laysRepeat Tryz.repExtra s c w (by omega) hb
      rw [Tryz.fRepeat] at hR
      refine hR.mono ?_
      rintro e W' ⟨rfl, hB⟩
      have hk : ∀ r, r < w.heap.size → W'.heap[r]? = w.heap[r]? := hB.block
      exact ⟨_, R, rfl, ⟨.refl R, hB.os, hB.tape, hB.output, hB.size, fun r hr _ _ => hk r hr, fun _ v L h => .inl ⟨v, L, h, rfl⟩, fun _ _ h => .inl h, fun _ _ _ h => .inl h⟩, hrel.stood hk, by rw [Int.toNat_natCast]; exact .str _, .refl R _⟩
    · simp at h1
  · simp at h1
end Go.PE
