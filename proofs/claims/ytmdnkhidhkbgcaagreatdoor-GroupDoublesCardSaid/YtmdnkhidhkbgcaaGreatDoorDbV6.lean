/- wire.zero: its one great region that draws its order, laid by the compiler: the check in parts. -/
import Derived.Test.YtmdnkhidhkbgcaaGreatDoorProg
import Derived.Test.YtmdnkhidhkbgcaaGreatDoorDbL3
import Derived.KernelRfl
namespace Go.PE
open Go.Proofs
set_option maxRecDepth 100000
noncomputable def ops82 : Array Oper := match Tryz.f82.body with | some (.seq _ (.seq _ (.seq (.region _ ops _) _))) => ops | _ => #[]
def es82 : List EOper := [⟨(some 31), .fieldAddr 0 (.t 3), none⟩, ⟨(some 32), .load false 1 (.t 31), none⟩, ⟨(some 33), .move (.t 32), none⟩, ⟨(some 34), .fieldAddr 3 (.t 2), some (33, false)⟩, ⟨(some 35), .load false 1 (.t 34), some (33, false)⟩, ⟨(some 36), .eq false (.leaf .int) (.t 35) (.c (.int .u32 0)), some (33, false)⟩, ⟨(some 37), .pick (.t 33) (.c (.bool true)) (.t 36), none⟩, ⟨(some 38), .fieldAddr 1 (.t 3), none⟩, ⟨(some 39), .load false 1 (.t 38), none⟩, ⟨(some 40), .move (.t 39), none⟩, ⟨(some 41), .fieldAddr 4 (.t 2), some (40, false)⟩, ⟨(some 42), .load true 2 (.t 41), some (40, false)⟩, ⟨(some 43), .build [(.int .u32 0), (.int .u8 0)] [], some (40, false)⟩, ⟨(some 44), .eq false (.agg [.int, .int]) (.t 42) (.t 43), some (40, false)⟩, ⟨(some 45), .pick (.t 40) (.c (.bool true)) (.t 44), none⟩, ⟨(some 46), .fieldAddr 2 (.t 3), none⟩, ⟨(some 47), .load false 1 (.t 46), none⟩, ⟨(some 48), .move (.t 47), none⟩, ⟨(some 49), .fieldAddr 6 (.t 2), some (48, false)⟩, ⟨(some 50), .load true 2 (.t 49), some (48, false)⟩, ⟨(some 51), .build [(.int .u32 0), (.int .u8 0)] [], some (48, false)⟩, ⟨(some 52), .eq false (.agg [.int, .int]) (.t 50) (.t 51), some (48, false)⟩, ⟨(some 53), .move (.t 52), some (48, false)⟩, ⟨(some 54), .fieldAddr 8 (.t 2), some (53, true)⟩, ⟨(some 55), .load false 1 (.t 54), some (53, true)⟩, ⟨(some 56), .un .not (.t 55), some (53, true)⟩, ⟨(some 57), .pick (.t 53) (.t 56) (.c (.bool false)), some (48, false)⟩, ⟨(some 58), .pick (.t 48) (.c (.bool true)) (.t 57), none⟩, ⟨(some 59), .fieldAddr 3 (.t 3), none⟩, ⟨(some 60), .load false 1 (.t 59), none⟩, ⟨(some 61), .move (.t 60), none⟩, ⟨(some 62), .fieldAddr 9 (.t 2), some (61, false)⟩, ⟨(some 63), .load true 3 (.t 62), some (61, false)⟩, ⟨(some 64), .build [(.int .u8 0), (.int .u8 0), (.int .i64 0)] [], some (61, false)⟩, ⟨(some 65), .eq false (.agg [.int, .int, .int]) (.t 63) (.t 64), some (61, false)⟩, ⟨(some 66), .pick (.t 61) (.c (.bool true)) (.t 65), none⟩, ⟨(some 67), .fieldAddr 4 (.t 3), none⟩, ⟨(some 68), .load false 1 (.t 67), none⟩, ⟨(some 69), .move (.t 68), none⟩, ⟨(some 70), .fieldAddr 12 (.t 2), some (69, false)⟩, ⟨(some 71), .load false 1 (.t 70), some (69, false)⟩, ⟨(some 72), .eq false (.leaf .int) (.t 71) (.c (.int .u8 0)), some (69, false)⟩, ⟨(some 73), .pick (.t 69) (.c (.bool true)) (.t 72), none⟩, ⟨(some 74), .fieldAddr 5 (.t 3), none⟩, ⟨(some 75), .load false 1 (.t 74), none⟩, ⟨(some 76), .move (.t 75), none⟩, ⟨(some 77), .fieldAddr 13 (.t 2), some (76, false)⟩, ⟨(some 78), .load true 49 (.t 77), some (76, false)⟩, ⟨(some 79), .build [(.int .u32 0), (.bool false), (.str (bs [])), (.str (bs [])), (.str (bs [])), (.str (bs [])), (.bool false), (.str (bs [])), (.str (bs [])), (.str (bs [])), (.str (bs [])), (.bool false), (.str (bs [])), (.str (bs [])), (.str (bs [])), (.str (bs [])), (.bool false), (.str (bs [])), (.str (bs [])), (.str (bs [])), (.str (bs [])), (.bool false), (.str (bs [])), (.str (bs [])), (.str (bs [])), (.str (bs [])), (.bool false), (.str (bs [])), (.str (bs [])), (.str (bs [])), (.str (bs [])), (.int .u32 0), (.int .u8 0), (.str (bs [])), (.int .u32 0), (.int .u8 0), (.str (bs [])), (.int .u32 0), (.int .u8 0), (.str (bs [])), (.int .u32 0), (.int .u32 0), (.int .u8 0), (.int .u32 0), (.int .u8 0), (.int .u8 0), (.int .u8 0), (.str (bs [])), .nils] [], some (76, false)⟩, ⟨(some 80), .call 24 [(.t 78), (.t 79)], some (76, false)⟩, ⟨(some 81), .pick (.t 76) (.c (.bool true)) (.t 80), none⟩, ⟨(some 82), .fieldAddr 6 (.t 3), none⟩, ⟨(some 83), .load false 1 (.t 82), none⟩, ⟨(some 84), .move (.t 83), none⟩, ⟨(some 85), .move (.t 5), some (84, false)⟩, ⟨(some 86), .pick (.t 84) (.c (.bool true)) (.t 85), none⟩, ⟨(some 87), .fieldAddr 7 (.t 3), none⟩, ⟨(some 88), .load false 1 (.t 87), none⟩, ⟨(some 89), .move (.t 88), none⟩, ⟨(some 90), .fieldAddr 114 (.t 2), some (89, false)⟩, ⟨(some 91), .load true 8 (.t 90), some (89, false)⟩, ⟨(some 92), .build [(.int .u32 0), (.int .u32 0), (.int .u8 0), (.int .u32 0), (.int .u8 0), (.int .u8 0), (.int .u8 0), (.str (bs []))] [], some (89, false)⟩, ⟨(some 93), .eq false (.agg [.int, .int, .int, .int, .int, .int, .int, .str]) (.t 91) (.t 92), some (89, false)⟩, ⟨(some 94), .pick (.t 89) (.c (.bool true)) (.t 93), none⟩, ⟨(some 95), .fieldAddr 8 (.t 3), none⟩, ⟨(some 96), .load false 1 (.t 95), none⟩, ⟨(some 97), .move (.t 96), none⟩, ⟨(some 98), .fieldAddr 122 (.t 2), some (97, false)⟩, ⟨(some 99), .load false 1 (.t 98), some (97, false)⟩, ⟨(some 100), .eq false (.leaf .int) (.t 99) (.c (.int .u32 0)), some (97, false)⟩, ⟨(some 101), .pick (.t 97) (.c (.bool true)) (.t 100), none⟩, ⟨(some 102), .fieldAddr 9 (.t 3), none⟩, ⟨(some 103), .load false 1 (.t 102), none⟩, ⟨(some 104), .move (.t 103), none⟩, ⟨(some 105), .fieldAddr 123 (.t 2), some (104, false)⟩, ⟨(some 106), .load true 6 (.t 105), some (104, false)⟩, ⟨(some 107), .build [(.int .u8 0), (.int .u32 0), (.int .u8 0), (.int .u8 0), (.int .u8 0), (.str (bs []))] [], some (104, false)⟩, ⟨(some 108), .eq false (.agg [.int, .int, .int, .int, .int, .str]) (.t 106) (.t 107), some (104, false)⟩, ⟨(some 109), .pick (.t 104) (.c (.bool true)) (.t 108), none⟩, ⟨(some 110), .fieldAddr 10 (.t 3), none⟩, ⟨(some 111), .load false 1 (.t 110), none⟩, ⟨(some 112), .move (.t 111), none⟩, ⟨(some 113), .fieldAddr 129 (.t 2), some (112, false)⟩, ⟨(some 114), .load true 2 (.t 113), some (112, false)⟩, ⟨(some 115), .build [(.int .u8 0), (.str (bs []))] [], some (112, false)⟩, ⟨(some 116), .eq false (.agg [.int, .str]) (.t 114) (.t 115), some (112, false)⟩, ⟨(some 117), .pick (.t 112) (.c (.bool true)) (.t 116), none⟩, ⟨(some 118), .buildSl 1 [(.bool false)] 11 [(0, 1, (.t 37)), (1, 1, (.t 45)), (2, 1, (.t 58)), (3, 1, (.t 66)), (4, 1, (.t 73)), (5, 1, (.t 81)), (6, 1, (.t 86)), (7, 1, (.t 94)), (8, 1, (.t 101)), (9, 1, (.t 109)), (10, 1, (.t 117))], none⟩, ⟨(some 6), .move (.t 118), none⟩]
def b82 : List Nat := [0, 1, 3, 7, 15, 31, 63, 0, 128, 391, 903, 1927, 903, 8071, 16263, 0, 32768, 99207, 230279, 492423, 230279, 2065287, 4162439, 8356743, 16745351, 33522567, 67076999, 134185863, 0, 268435456, 813663111, 1887404935, 4034888583, 1887404935, 16919790471, 34099659655, 0, 68719476736, 208045835143, 482923742087, 1032679555975, 2132191183751, 4331214439303, 0, 8796093022208, 26871202808711, 62055574897543, 132424319075207, 62055574897543, 554636784141191, 1117586737562503, 0, 2251799813685248, 7872986178618247, 16880185433359239, 34894583942841223, 0, 72057594037927936, 233052967547143047, 521283343698854791, 1097744096002278279, 521283343698854791, 4556508609822819207, 9168194628250207111, 0, 18446744073709551616, 55861515564827509639, 129648491859665716103, 277222444449342129031, 572370349628694954887, 1162666159987400606599, 0, 2361183241434822606848, 7213198216164133536647, 16657931181903423964039, 35547397113382004818823, 16657931181903423964039, 148884192702253489947527, 299999920154082136785799, 0, 604462909807314587353088, 1830046660603847186023303, 4247898299833105535435655, 9083601578291622234260359, 4247898299833105535435655, 38097821249042722427208583, 76783447476710856017806215, 154742504910672534362390527, 309485009821345068724781055]
def L82 : Lay := ⟨[0, 1, 2, 3, 4, 5, 6, 7, 8, 9, 10, 11, 12, 13, 14, 15, 16, 17, 18, 19, 20, 21, 22, 23, 24, 25, 26, 27, 28, 29, 30, 31, 32, 33, 34, 35, 36, 37, 38, 39, 40, 41, 42, 43, 44, 45, 46, 47, 48, 51, 52, 56, 57, 64, 65, 71, 72, 79, 80, 49, 50, 53, 54, 55, 58, 59, 60, 61, 62, 63, 66, 67, 68, 69, 70, 73, 74, 75, 76, 77, 78, 81, 82, 83, 84, 85, 86, 87, 88], [0, 0, 0, 0, 0, 0, 0, 0, 0, 0, 0, 0, 0, 0, 0, 0, 0, 0, 0, 0, 0, 0, 0, 0, 0, 0, 0, 0, 0, 0, 0, 0, 0, 0, 0, 0, 0, 0, 0, 0, 0, 0, 0, 0, 0, 0, 0, 0, 0, 0, 1, 0, 0, 1, 1, 1, 0, 0, 1, 1, 1, 1, 1, 1, 0, 0, 1, 1, 1, 1, 1, 0, 0, 1, 1, 1, 1, 1, 1, 0, 0, 1, 1, 1, 1, 1, 1, 1, 1], [0, 0, 0, 1, 1, 1, 1, 0, 0, 0, 1, 1, 1, 1, 1, 0, 0, 0, 0, 0, 0, 0, 0, 1, 1, 1, 1, 1, 0, 0, 0, 1, 1, 1, 1, 1, 0, 0, 0, 1, 1, 1, 1, 0, 0, 0, 0, 0, 0, 1, 1, 1, 1, 1, 1, 1, 1, 1, 1, 1, 1, 1, 1, 1, 1, 1, 1, 1, 1, 1, 1, 1, 1, 1, 1, 1, 1, 1, 1, 1, 1, 1, 1, 1, 1, 1, 1, 1, 1], 1⟩
theorem es82_ok : ops82.toList.map (cOper Tryz.prog ops82) = es82 := by kernel_rfl
theorem b82_ok : befL ops82.toList = b82 := by kernel_rfl
theorem L82_ok : layOf es82 b82 = L82 := by kernel_rfl
theorem one82_0 : ((List.range' 0 10).all fun j => oneOk es82 b82 L82 j) = true := by kernel_rfl
theorem one82_10 : ((List.range' 10 10).all fun j => oneOk es82 b82 L82 j) = true := by kernel_rfl
theorem one82_20 : ((List.range' 20 10).all fun j => oneOk es82 b82 L82 j) = true := by kernel_rfl
theorem one82_30 : ((List.range' 30 10).all fun j => oneOk es82 b82 L82 j) = true := by kernel_rfl
theorem one82_40 : ((List.range' 40 10).all fun j => oneOk es82 b82 L82 j) = true := by kernel_rfl
theorem one82_50 : ((List.range' 50 10).all fun j => oneOk es82 b82 L82 j) = true := by kernel_rfl
theorem one82_60 : ((List.range' 60 10).all fun j => oneOk es82 b82 L82 j) = true := by kernel_rfl
theorem one82_70 : ((List.range' 70 10).all fun j => oneOk es82 b82 L82 j) = true := by kernel_rfl
theorem one82_80 : ((List.range' 80 9).all fun j => oneOk es82 b82 L82 j) = true := by kernel_rfl
theorem back82 : backOk .any ops82 = true := by kernel_rfl
theorem order82 : orderOk .any ops82 = true := orderOk_back back82
theorem rest82 : ((L82.ord.length == es82.length) && decide (L82.m ≤ es82.length) && (L82.ord.countP (isWr es82) == L82.m)) = true := by kernel_rfl
theorem len82 : es82.length = 89 := by kernel_rfl
theorem range89 : List.range 89 = List.range' 0 10 ++ (List.range' 10 10 ++ (List.range' 20 10 ++ (List.range' 30 10 ++ (List.range' 40 10 ++ (List.range' 50 10 ++ (List.range' 60 10 ++ (List.range' 70 10 ++ (List.range' 80 9)))))))) := by decide +kernel
theorem draw82 : drawOkP ops82 es82 b82 L82 = true := by
  unfold drawOkP
  have h := rest82
  simp only [Bool.and_eq_true] at h
  simp only [Bool.and_eq_true]
  refine ⟨⟨⟨⟨?_, h.1.1⟩, h.1.2⟩, h.2⟩, order82⟩
  rw [len82, range89]
  simp only [List.all_append, Bool.and_eq_true]
  exact ⟨one82_0, one82_10, one82_20, one82_30, one82_40, one82_50, one82_60, one82_70, one82_80⟩
theorem reg82 : cRegion Tryz.prog ops82 true = .draw (cDraw es82 L82) := by
  unfold cRegion
  rw [es82_ok, b82_ok, L82_ok, draw82]
  rfl
def cl82 : ECode := match lit82.body with | .seq a _ => a | _ => .fail
def cm82 : ECode := match lit82.body with | .seq _ (.seq a _) => a | _ => .fail
def cr82 : ECode := match lit82.body with | .seq _ (.seq _ (.seq _ a)) => a | _ => .fail
theorem code82 : ∃ a0 a1 k r, Tryz.f82.body = some (.seq a0 (.seq a1 (.seq (.region k ops82 true) r))) ∧ cCode Tryz.prog a0 = cl82 ∧ cCode Tryz.prog a1 = cm82 ∧ cCode Tryz.prog r = cr82 :=
  ⟨_, _, _, _, rfl, by kernel_rfl, by kernel_rfl, by kernel_rfl⟩
theorem call82 : callable Tryz.prog 82 = true := by kernel_rfl
theorem res82 : Tryz.f82.results.toList.mapM (cRes Tryz.prog) = some [.tmp 4] := by kernel_rfl
theorem lit82_ok0 : funcE Tryz.prog 82 = some lit82 := by
  obtain ⟨a0, a1, k, r, hb, h0, h1, h3⟩ := code82
  unfold funcE
  rw [if_pos call82, Tryz.func82]
  show cFunc Tryz.prog Tryz.f82 = _
  unfold cFunc
  rw [hb, res82]
  simp only [cCode, h0, h1, h3, reg82]
  kernel_rfl
theorem lit82_ok : funcE Tryz.prog 82 = some (stripF lit82) := lit82_ok0.trans (congrArg some (by kernel_rfl))
end Go.PE
