/- strings.Repeat as a shortcut: the kit's contract, laid at this program. -/
import Derived.Shelf.Strings.Repeat
import Derived.Ground.NamesProg
import Derived.Test.YtcmcijlbmkllpaaGreatDoorProg
import Derived.Test.YtcmcijlbmkllpaaGreatDoorED
import Derived.KernelRfl
namespace Go.Proofs
open Go.Shelf Go.RowKit

def Tryz.laysRepeat_ren : Go.Shelf.Ren := ⟨fun | 105 => 191 | 212 => 206 | 99 => 207 | 165 => 208 | 166 => 209 | 170 => 210 | 169 => 211 | 263 => 217 | 264 => 218 | 206 => 219 | 240 => 220 | 241 => 221 | 276 => 224 | 277 => 225 | n => n, fun | 9 => 9 | 3 => 3 | 4 => 4 | 20 => 20 | 0 => 0 | 46 => 172 | 109 => 266 | 5 => 5 | 72 => 271 | 76 => 274 | 51 => 25 | 146 => 78 | 53 => 134 | 148 => 281 | 70 => 269 | 37 => 63 | 75 => 273 | 127 => 283 | 164 => 288 | 80 => 276 | n => n, fun | n => n⟩

theorem Tryz.laysRepeat : Lays.n105 Tryz.prog Tryz.laysRepeat_ren where
  mixed := by kernel_rfl
  f99 := Tryz.func207.trans (congrArg some (by kernel_rfl))
  f105 := Tryz.func191.trans (congrArg some (by kernel_rfl))
  f165 := Tryz.func208.trans (congrArg some (by kernel_rfl))
  f166 := Tryz.func209.trans (congrArg some (by kernel_rfl))
  f169 := Tryz.func211.trans (congrArg some (by kernel_rfl))
  f170 := Tryz.func210.trans (congrArg some (by kernel_rfl))
  f206 := Tryz.func219.trans (congrArg some (by kernel_rfl))
  f212 := Tryz.func206.trans (congrArg some (by kernel_rfl))
  f240 := Tryz.func220.trans (congrArg some (by kernel_rfl))
  f241 := Tryz.func221.trans (congrArg some (by kernel_rfl))
  f263 := Tryz.func217.trans (congrArg some (by kernel_rfl))
  f264 := Tryz.func218.trans (congrArg some (by kernel_rfl))
  f276 := Tryz.func224.trans (congrArg some (by kernel_rfl))
  f277 := Tryz.func225.trans (congrArg some (by kernel_rfl))
  t0 := Tryz.underlying0
  a0 := Tryz.isAgg0
  z0 := Tryz.sizeOf0
  v0 := Tryz.zeroValue0
  t3 := Tryz.underlying3
  a3 := Tryz.isAgg3
  z3 := Tryz.sizeOf3
  v3 := Tryz.zeroValue3
  t4 := Tryz.underlying4
  a4 := Tryz.isAgg4
  z4 := Tryz.sizeOf4
  v4 := Tryz.zeroValue4
  t5 := Tryz.underlying5
  a5 := Tryz.isAgg5
  z5 := Tryz.sizeOf5
  v5 := Tryz.zeroValue5
  t9 := Tryz.underlying9
  a9 := Tryz.isAgg9
  z9 := Tryz.sizeOf9
  v9 := Tryz.zeroValue9
  t20 := Tryz.underlying20
  a20 := Tryz.isAgg20
  z20 := Tryz.sizeOf20
  v20 := Tryz.zeroValue20
  t37 := Tryz.underlying63
  a37 := Tryz.isAgg63
  z37 := Tryz.sizeOf63
  v37 := Tryz.zeroValue63
  t46 := Tryz.underlying172
  a46 := Tryz.isAgg172
  z46 := Tryz.sizeOf172
  v46 := Tryz.zeroValue172
  t51 := Tryz.underlying25
  a51 := Tryz.isAgg25
  z51 := Tryz.sizeOf25
  v51 := Tryz.zeroValue25
  t53 := Tryz.underlying134
  a53 := Tryz.isAgg134
  z53 := Tryz.sizeOf134
  v53 := Tryz.zeroValue134
  t70 := Tryz.underlying269
  a70 := Tryz.isAgg269
  z70 := Tryz.sizeOf269
  v70 := Tryz.zeroValue269
  t72 := Tryz.underlying271
  a72 := Tryz.isAgg271
  z72 := Tryz.sizeOf271
  v72 := Tryz.zeroValue271
  t75 := Tryz.underlying273
  a75 := Tryz.isAgg273
  z75 := Tryz.sizeOf273
  v75 := Tryz.zeroValue273
  t76 := Tryz.underlying274
  a76 := Tryz.isAgg274
  z76 := Tryz.sizeOf274
  v76 := Tryz.zeroValue274
  t109 := Tryz.underlying266
  a109 := Tryz.isAgg266
  z109 := Tryz.sizeOf266
  v109 := Tryz.zeroValue266
  t127 := Tryz.underlying283
  a127 := Tryz.isAgg283
  z127 := Tryz.sizeOf283
  v127 := Tryz.zeroValue283
  t146 := Tryz.underlying78
  a146 := Tryz.isAgg78
  z146 := Tryz.sizeOf78
  v146 := Tryz.zeroValue78
  t148 := Tryz.underlying281
  a148 := Tryz.isAgg281
  z148 := Tryz.sizeOf281
  v148 := Tryz.zeroValue281
  t164 := Tryz.underlying288
  a164 := Tryz.isAgg288
  z164 := Tryz.sizeOf288
  v164 := Tryz.zeroValue288

theorem Tryz.repExtra : Builder.Extra Tryz.prog Tryz.laysRepeat_ren where
  sizeBuilder := by kernel_rfl
  liesBuilder := by kernel_rfl
  t5 := Tryz.laysRepeat.t5
  a5 := Tryz.laysRepeat.a5
  z5 := Tryz.laysRepeat.z5
  v5 := Tryz.laysRepeat.v5
  infoByte := by kernel_rfl
  cellsByte := by kernel_rfl
  sizeByte := by kernel_rfl
  neB5 := by decide

theorem Tryz.fRepeat : Tryz.laysRepeat_ren.f 105 = 191 := by kernel_rfl
end Go.Proofs

namespace Go.PE
open Go.Proofs Go.RowKit

def repV : List V → Option V
  | [.str s, .int .i64 n] => if 0 ≤ n ∧ n ≤ 4096 ∧ s.size ≤ 4096 then some (.str ⟨(Lib.repeatL s.data.toList n.toNat).toArray⟩) else none
  | _ => none

theorem callableRep : callable Tryz.prog 191 = true := by kernel_rfl

theorem rep_ok : CallOK Tryz.prog 191 fun args H => (repV args).map fun v => (v, H) := by
  intro R H H' w args args' v h hargs hrel
  refine ⟨callableRep, ?_⟩
  rw [Option.map_eq_some_iff] at h
  obtain ⟨v1, h1, h2⟩ := h
  simp only [Prod.mk.injEq] at h2
  obtain ⟨rfl, rfl⟩ := h2
  unfold repV at h1
  split at h1
  · rename_i s n
    split at h1
    · rename_i hc
      obtain ⟨c1, c2, c3⟩ := hc
      simp only [Option.some.injEq] at h1; subst h1
      obtain rfl : args' = #[.string s, .int .i64 n] := by
        obtain ⟨l⟩ := args'
        cases hargs with
        | cons x1 r1 =>
          cases r1 with
          | cons x2 r2 =>
            cases r2
            cases x1
            cases x2
            rfl
      obtain ⟨c, rfl⟩ : ∃ c : Nat, n = (c : Int) := ⟨n.toNat, by omega⟩
      have hb : s.size * c ≤ 140737488355328 := Nat.le_trans (Nat.mul_le_mul c3 (show c ≤ 4096 by omega)) (by decide)
      have hR := Any.strings_Repeat Tryz.laysRepeat Tryz.repExtra s c w (by omega) hb
      rw [Tryz.fRepeat] at hR
      refine hR.mono ?_
      rintro e W' ⟨rfl, hB⟩
      have hk : ∀ r, r < w.heap.size → W'.heap[r]? = w.heap[r]? := hB.block
      exact ⟨_, R, rfl, ⟨.refl R, hB.os, hB.tape, hB.output, hB.size, fun r hr _ _ => hk r hr, fun _ v L h => .inl ⟨v, L, h, rfl⟩, fun _ _ h => .inl h, fun _ _ _ h => .inl h⟩, hrel.stood hk, by rw [Int.toNat_natCast]; exact .str _, .refl R _⟩
    · simp at h1
  · simp at h1

end Go.PE
