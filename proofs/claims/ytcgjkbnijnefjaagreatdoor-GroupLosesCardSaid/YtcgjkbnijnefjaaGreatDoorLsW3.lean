/- strings.Repeat as a shortcut: the kit's contract, laid at this program. -/
import Derived.Shelf.Strings.Repeat
import Derived.Ground.NamesProg
import Derived.Test.YtcgjkbnijnefjaaGreatDoorProg
import Derived.Test.YtcgjkbnijnefjaaGreatDoorEF
import Derived.KernelRfl
namespace Go.Proofs
open Go.Shelf Go.RowKit

def Tryz.laysRepeat_ren : Go.Shelf.Ren := ⟨fun | 105 => 200 | 212 => 205 | 99 => 206 | 165 => 207 | 166 => 208 | 170 => 209 | 169 => 210 | 263 => 217 | 264 => 218 | 206 => 219 | 240 => 220 | 241 => 221 | 276 => 227 | 277 => 228 | n => n, fun | 9 => 9 | 3 => 3 | 4 => 4 | 20 => 20 | 0 => 0 | 46 => 168 | 109 => 260 | 5 => 5 | 72 => 265 | 76 => 268 | 51 => 22 | 146 => 73 | 53 => 140 | 148 => 278 | 70 => 263 | 37 => 82 | 75 => 267 | 127 => 280 | 164 => 284 | 80 => 270 | n => n, fun | n => n⟩

theorem Tryz.laysRepeat : Lays.n105 Tryz.prog Tryz.laysRepeat_ren where
  mixed := by kernel_rfl
  f99 := Tryz.func206.trans (congrArg some (by kernel_rfl))
  f105 := Tryz.func200.trans (congrArg some (by kernel_rfl))
  f165 := Tryz.func207.trans (congrArg some (by kernel_rfl))
  f166 := Tryz.func208.trans (congrArg some (by kernel_rfl))
  f169 := Tryz.func210.trans (congrArg some (by kernel_rfl))
  f170 := Tryz.func209.trans (congrArg some (by kernel_rfl))
  f206 := Tryz.func219.trans (congrArg some (by kernel_rfl))
  f212 := Tryz.func205.trans (congrArg some (by kernel_rfl))
  f240 := Tryz.func220.trans (congrArg some (by kernel_rfl))
  f241 := Tryz.func221.trans (congrArg some (by kernel_rfl))
  f263 := Tryz.func217.trans (congrArg some (by kernel_rfl))
  f264 := Tryz.func218.trans (congrArg some (by kernel_rfl))
  f276 := Tryz.func227.trans (congrArg some (by kernel_rfl))
  f277 := Tryz.func228.trans (congrArg some (by kernel_rfl))
  t0 := Tryz.underlying0
  a0 := Tryz.isAgg0
  z0 := Tryz.sizeOf0
  v0 := Tryz.zeroValue0
  t3 := Tryz.underlying3
  a3 := Tryz.isAgg3
  z3 := Tryz.sizeOf3
  v3 := Tryz.zeroValue3
  t4 := Tryz.underlying4
  a4 := Tryz.isAgg4
  z4 := Tryz.sizeOf4
  v4 := Tryz.zeroValue4
  t5 := Tryz.underlying5
  a5 := Tryz.isAgg5
  z5 := Tryz.sizeOf5
  v5 := Tryz.zeroValue5
  t9 := Tryz.underlying9
  a9 := Tryz.isAgg9
  z9 := Tryz.sizeOf9
  v9 := Tryz.zeroValue9
  t20 := Tryz.underlying20
  a20 := Tryz.isAgg20
  z20 := Tryz.sizeOf20
  v20 := Tryz.zeroValue20
  t37 := Tryz.underlying82
  a37 := Tryz.isAgg82
  z37 := Tryz.sizeOf82
  v37 := Tryz.zeroValue82
  t46 := Tryz.underlying168
  a46 := Tryz.isAgg168
  z46 := Tryz.sizeOf168
  v46 := Tryz.zeroValue168
  t51 := Tryz.underlying22
  a51 := Tryz.isAgg22
  z51 := Tryz.sizeOf22
  v51 := Tryz.zeroValue22
  t53 := Tryz.underlying140
  a53 := Tryz.isAgg140
  z53 := Tryz.sizeOf140
  v53 := Tryz.zeroValue140
  t70 := Tryz.underlying263
  a70 := Tryz.isAgg263
  z70 := Tryz.sizeOf263
  v70 := Tryz.zeroValue263
  t72 := Tryz.underlying265
  a72 := Tryz.isAgg265
  z72 := Tryz.sizeOf265
  v72 := Tryz.zeroValue265
  t75 := Tryz.underlying267
  a75 := Tryz.isAgg267
  z75 := Tryz.sizeOf267
  v75 := Tryz.zeroValue267
  t76 := Tryz.underlying268
  a76 := Tryz.isAgg268
  z76 := Tryz.sizeOf268
  v76 := Tryz.zeroValue268
  t109 := Tryz.underlying260
  a109 := Tryz.isAgg260
  z109 := Tryz.sizeOf260
  v109 := Tryz.zeroValue260
  t127 := Tryz.underlying280
  a127 := Tryz.isAgg280
  z127 := Tryz.sizeOf280
  v127 := Tryz.zeroValue280
  t146 := Tryz.underlying73
  a146 := Tryz.isAgg73
  z146 := Tryz.sizeOf73
  v146 := Tryz.zeroValue73
  t148 := Tryz.underlying278
  a148 := Tryz.isAgg278
  z148 := Tryz.sizeOf278
  v148 := Tryz.zeroValue278
  t164 := Tryz.underlying284
  a164 := Tryz.isAgg284
  z164 := Tryz.sizeOf284
  v164 := Tryz.zeroValue284

theorem Tryz.repExtra : Builder.Extra Tryz.prog Tryz.laysRepeat_ren where
  sizeBuilder := by kernel_rfl
  liesBuilder := by kernel_rfl
  t5 := Tryz.laysRepeat.t5
  a5 := Tryz.laysRepeat.a5
  z5 := Tryz.laysRepeat.z5
  v5 := Tryz.laysRepeat.v5
  infoByte := by kernel_rfl
  cellsByte := by kernel_rfl
  sizeByte := by kernel_rfl
  neB5 := by decide

theorem Tryz.fRepeat : Tryz.laysRepeat_ren.f 105 = 200 := by kernel_rfl
end Go.Proofs

namespace Go.PE
open Go.Proofs Go.RowKit

def repV : List V → Option V
  | [.str s, .int .i64 n] => if 0 ≤ n ∧ n ≤ 4096 ∧ s.size ≤ 4096 then some (.str ⟨(Lib.repeatL s.data.toList n.toNat).toArray⟩) else none
  | _ => none

theorem callableRep : callable Tryz.prog 200 = true := by kernel_rfl

theorem rep_ok : CallOK Tryz.prog 200 fun args H => (repV args).map fun v => (v, H) := by
  intro R H H' w args args' v h hargs hrel
  refine ⟨callableRep, ?_⟩
  rw [Option.map_eq_some_iff] at h
  obtain ⟨v1, h1, h2⟩ := h
  simp only [Prod.mk.injEq] at h2
  obtain ⟨rfl, rfl⟩ := h2
  unfold repV at h1
  split at h1
  · rename_i s n
    split at h1
    · rename_i hc
      obtain ⟨c1, c2, c3⟩ := hc
      simp only [Option.some.injEq] at h1; subst h1
      obtain rfl : args' = #[.string s, .int .i64 n] := by
        obtain ⟨l⟩ := args'
        cases hargs with
        | cons x1 r1 =>
          cases r1 with
          | cons x2 r2 =>
            cases r2
            cases x1
            cases x2
            rfl
      obtain ⟨c, rfl⟩ : ∃ c : Nat, n = (c : Int) := ⟨n.toNat, by omega⟩
      have hb : s.size * c ≤ 140737488355328 := Nat.le_trans (Nat.mul_le_mul c3 (show c ≤ 4096 by omega)) (by decide)
      have hR := Any.strings_Repeat Tryz.laysRepeat Tryz.repExtra s c w (by omega) hb
      rw [Tryz.fRepeat] at hR
      refine hR.mono ?_
      rintro e W' ⟨rfl, hB⟩
      have hk : ∀ r, r < w.heap.size → W'.heap[r]? = w.heap[r]? := hB.block
      exact ⟨_, R, rfl, ⟨.refl R, hB.os, hB.tape, hB.output, hB.size, fun r hr _ _ => hk r hr, fun _ v L h => .inl ⟨v, L, h, rfl⟩, fun _ _ h => .inl h, fun _ _ _ h => .inl h⟩, hrel.stood hk, by rw [Int.toNat_natCast]; exact .str _, .refl R _⟩
    · simp at h1
  · simp at h1

end Go.PE
