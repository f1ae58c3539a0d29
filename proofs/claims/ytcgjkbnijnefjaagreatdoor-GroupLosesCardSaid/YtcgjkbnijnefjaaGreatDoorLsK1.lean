/- straw.Draw, at the numbers that the runs ask it for: a table, each entry reckoned by the kernel. -/
import Derived.Test.YtcgjkbnijnefjaaGreatDoorLsP5
import Derived.Test.YtcgjkbnijnefjaaGreatDoorEF
import Derived.KernelRfl
namespace Go.PE
open Go.Proofs
set_option maxRecDepth 100000

theorem tryzMixed : Tryz.prog.follows .mixedOrders = true := by kernel_rfl

noncomputable def ctx0 : CtxK := ctxS DTs (fun _ _ => none) (fun _ _ _ _ => none) 40

def drawT : List (List V × V) := [
  ([(.int .u8 0), (.int .i64 0), (.int .i64 0), (.int .i64 8)], (.int .i64 (-536870912))),
  ([(.int .u8 0), (.int .i64 1), (.int .i64 0), (.int .i64 8)], (.int .i64 (-107323904))),
  ([(.int .u8 0), (.int .i64 2), (.int .i64 0), (.int .i64 8)], (.int .i64 (-40165888))),
  ([(.int .u8 0), (.int .i64 3), (.int .i64 0), (.int .i64 8)], (.int .i64 (-60047872))),
  ([(.int .u8 0), (.int .i64 4), (.int .i64 0), (.int .i64 8)], (.int .i64 (-4638720))),
  ([(.int .u8 0), (.int .i64 0), (.int .i64 1), (.int .i64 8)], (.int .i64 (-11187712))),
  ([(.int .u8 0), (.int .i64 1), (.int .i64 1), (.int .i64 8)], (.int .i64 (-4935680))),
  ([(.int .u8 0), (.int .i64 2), (.int .i64 1), (.int .i64 8)], (.int .i64 (-12449280))),
  ([(.int .u8 0), (.int .i64 3), (.int .i64 1), (.int .i64 8)], (.int .i64 (-662016))),
  ([(.int .u8 0), (.int .i64 4), (.int .i64 1), (.int .i64 8)], (.int .i64 (-112462848))),
  ([(.int .u8 0), (.int .i64 0), (.int .i64 2), (.int .i64 8)], (.int .i64 (-32099328))),
  ([(.int .u8 0), (.int .i64 1), (.int .i64 2), (.int .i64 8)], (.int .i64 (-89325568))),
  ([(.int .u8 0), (.int .i64 2), (.int .i64 2), (.int .i64 8)], (.int .i64 (-25497600))),
  ([(.int .u8 0), (.int .i64 3), (.int .i64 2), (.int .i64 8)], (.int .i64 (-225304576))),
  ([(.int .u8 0), (.int .i64 4), (.int .i64 2), (.int .i64 8)], (.int .i64 (-4258304))),
  ([(.int .u8 0), (.int .i64 0), (.int .i64 5), (.int .i64 8)], (.int .i64 (-53110272))),
  ([(.int .u8 0), (.int .i64 1), (.int .i64 5), (.int .i64 8)], (.int .i64 (-40565760))),
  ([(.int .u8 0), (.int .i64 2), (.int .i64 5), (.int .i64 8)], (.int .i64 (-17871872))),
  ([(.int .u8 0), (.int .i64 3), (.int .i64 5), (.int .i64 8)], (.int .i64 (-44340736))),
  ([(.int .u8 0), (.int .i64 4), (.int .i64 5), (.int .i64 8)], (.int .i64 (-34950144))),
  ([(.int .u8 1), (.int .i64 0), (.int .i64 0), (.int .i64 8)], (.int .i64 (-48800768))),
  ([(.int .u8 1), (.int .i64 1), (.int .i64 0), (.int .i64 8)], (.int .i64 (-20182016))),
  ([(.int .u8 1), (.int .i64 2), (.int .i64 0), (.int .i64 8)], (.int .i64 (-5295616))),
  ([(.int .u8 1), (.int .i64 3), (.int .i64 0), (.int .i64 8)], (.int .i64 (-31998976))),
  ([(.int .u8 1), (.int .i64 4), (.int .i64 0), (.int .i64 8)], (.int .i64 (-174779904))),
  ([(.int .u8 1), (.int .i64 0), (.int .i64 1), (.int .i64 8)], (.int .i64 (-140251648))),
  ([(.int .u8 1), (.int .i64 1), (.int .i64 1), (.int .i64 8)], (.int .i64 (-26272768))),
  ([(.int .u8 1), (.int .i64 2), (.int .i64 1), (.int .i64 8)], (.int .i64 (-8002048))),
  ([(.int .u8 1), (.int .i64 3), (.int .i64 1), (.int .i64 8)], (.int .i64 (-47726080))),
  ([(.int .u8 1), (.int .i64 4), (.int .i64 1), (.int .i64 8)], (.int .i64 (-18832384))),
  ([(.int .u8 1), (.int .i64 0), (.int .i64 4), (.int .i64 8)], (.int .i64 (-9602048))),
  ([(.int .u8 1), (.int .i64 1), (.int .i64 4), (.int .i64 8)], (.int .i64 (-23171584))),
  ([(.int .u8 1), (.int .i64 2), (.int .i64 4), (.int .i64 8)], (.int .i64 (-32375296))),
  ([(.int .u8 1), (.int .i64 3), (.int .i64 4), (.int .i64 8)], (.int .i64 (-2470400))),
  ([(.int .u8 1), (.int .i64 4), (.int .i64 4), (.int .i64 8)], (.int .i64 (-65208832))),
  ([(.int .u8 1), (.int .i64 0), (.int .i64 2), (.int .i64 8)], (.int .i64 (-3091968))),
  ([(.int .u8 1), (.int .i64 1), (.int .i64 2), (.int .i64 8)], (.int .i64 (-88179712))),
  ([(.int .u8 1), (.int .i64 2), (.int .i64 2), (.int .i64 8)], (.int .i64 (-9048576))),
  ([(.int .u8 1), (.int .i64 3), (.int .i64 2), (.int .i64 8)], (.int .i64 (-30599168))),
  ([(.int .u8 1), (.int .i64 4), (.int .i64 2), (.int .i64 8)], (.int .i64 (-21231104))),
  ([(.int .u8 2), (.int .i64 0), (.int .i64 0), (.int .i64 8)], (.int .i64 (-173352960))),
  ([(.int .u8 2), (.int .i64 1), (.int .i64 0), (.int .i64 8)], (.int .i64 (-17271808))),
  ([(.int .u8 2), (.int .i64 2), (.int .i64 0), (.int .i64 8)], (.int .i64 (-18395136))),
  ([(.int .u8 2), (.int .i64 3), (.int .i64 0), (.int .i64 8)], (.int .i64 (-9731072))),
  ([(.int .u8 2), (.int .i64 4), (.int .i64 0), (.int .i64 8)], (.int .i64 (-559616))),
  ([(.int .u8 2), (.int .i64 0), (.int .i64 1), (.int .i64 8)], (.int .i64 (-54229504))),
  ([(.int .u8 2), (.int .i64 1), (.int .i64 1), (.int .i64 8)], (.int .i64 (-51748864))),
  ([(.int .u8 2), (.int .i64 2), (.int .i64 1), (.int .i64 8)], (.int .i64 (-12164608))),
  ([(.int .u8 2), (.int .i64 3), (.int .i64 1), (.int .i64 8)], (.int .i64 (-25480192))),
  ([(.int .u8 2), (.int .i64 4), (.int .i64 1), (.int .i64 8)], (.int .i64 (-29500928))),
  ([(.int .u8 2), (.int .i64 0), (.int .i64 2), (.int .i64 8)], (.int .i64 (-45017600))),
  ([(.int .u8 2), (.int .i64 1), (.int .i64 2), (.int .i64 8)], (.int .i64 (-90203136))),
  ([(.int .u8 2), (.int .i64 2), (.int .i64 2), (.int .i64 8)], (.int .i64 (-22184960))),
  ([(.int .u8 2), (.int .i64 3), (.int .i64 2), (.int .i64 8)], (.int .i64 (-67616768))),
  ([(.int .u8 2), (.int .i64 4), (.int .i64 2), (.int .i64 8)], (.int .i64 (-334336))),
  ([(.int .u8 2), (.int .i64 0), (.int .i64 5), (.int .i64 8)], (.int .i64 (-54130176))),
  ([(.int .u8 2), (.int .i64 1), (.int .i64 5), (.int .i64 8)], (.int .i64 (-158254080))),
  ([(.int .u8 2), (.int .i64 2), (.int .i64 5), (.int .i64 8)], (.int .i64 (-14989824))),
  ([(.int .u8 2), (.int .i64 3), (.int .i64 5), (.int .i64 8)], (.int .i64 (-223477760))),
  ([(.int .u8 2), (.int .i64 4), (.int .i64 5), (.int .i64 8)], (.int .i64 (-4402688))),
  ([(.int .u8 2), (.int .i64 0), (.int .i64 8), (.int .i64 8)], (.int .i64 (-3442176))),
  ([(.int .u8 2), (.int .i64 1), (.int .i64 8), (.int .i64 8)], (.int .i64 (-24152064))),
  ([(.int .u8 2), (.int .i64 2), (.int .i64 8), (.int .i64 8)], (.int .i64 (-21847552))),
  ([(.int .u8 2), (.int .i64 3), (.int .i64 8), (.int .i64 8)], (.int .i64 (-70179840))),
  ([(.int .u8 2), (.int .i64 4), (.int .i64 8), (.int .i64 8)], (.int .i64 (-14489088))),
  ([(.int .u8 2), (.int .i64 0), (.int .i64 11), (.int .i64 8)], (.int .i64 (-3450368))),
  ([(.int .u8 2), (.int .i64 1), (.int .i64 11), (.int .i64 8)], (.int .i64 (-145209344))),
  ([(.int .u8 2), (.int .i64 2), (.int .i64 11), (.int .i64 8)], (.int .i64 (-124748288))),
  ([(.int .u8 2), (.int .i64 3), (.int .i64 11), (.int .i64 8)], (.int .i64 (-18103296))),
  ([(.int .u8 2), (.int .i64 4), (.int .i64 11), (.int .i64 8)], (.int .i64 (-33748480))),
  ([(.int .u8 2), (.int .i64 0), (.int .i64 14), (.int .i64 8)], (.int .i64 (-8267776))),
  ([(.int .u8 2), (.int .i64 1), (.int .i64 14), (.int .i64 8)], (.int .i64 (-71955968))),
  ([(.int .u8 2), (.int .i64 2), (.int .i64 14), (.int .i64 8)], (.int .i64 (-120250368))),
  ([(.int .u8 2), (.int .i64 3), (.int .i64 14), (.int .i64 8)], (.int .i64 (-1664512))),
  ([(.int .u8 2), (.int .i64 4), (.int .i64 14), (.int .i64 8)], (.int .i64 (-112833536))),
  ([(.int .u8 3), (.int .i64 0), (.int .i64 0), (.int .i64 8)], (.int .i64 (-29878784))),
  ([(.int .u8 3), (.int .i64 1), (.int .i64 0), (.int .i64 8)], (.int .i64 (-49142272))),
  ([(.int .u8 3), (.int .i64 2), (.int .i64 0), (.int .i64 8)], (.int .i64 (-34017792))),
  ([(.int .u8 3), (.int .i64 3), (.int .i64 0), (.int .i64 8)], (.int .i64 (-7381504))),
  ([(.int .u8 3), (.int .i64 4), (.int .i64 0), (.int .i64 8)], (.int .i64 (-56990208))),
  ([(.int .u8 3), (.int .i64 0), (.int .i64 1), (.int .i64 8)], (.int .i64 (-17859072))),
  ([(.int .u8 3), (.int .i64 1), (.int .i64 1), (.int .i64 8)], (.int .i64 (-47053312))),
  ([(.int .u8 3), (.int .i64 2), (.int .i64 1), (.int .i64 8)], (.int .i64 (-10512384))),
  ([(.int .u8 3), (.int .i64 3), (.int .i64 1), (.int .i64 8)], (.int .i64 (-59405824))),
  ([(.int .u8 3), (.int .i64 4), (.int .i64 1), (.int .i64 8)], (.int .i64 (-57158144))),
  ([(.int .u8 3), (.int .i64 0), (.int .i64 2), (.int .i64 8)], (.int .i64 (-43549696))),
  ([(.int .u8 3), (.int .i64 1), (.int .i64 2), (.int .i64 8)], (.int .i64 (-29522944))),
  ([(.int .u8 3), (.int .i64 2), (.int .i64 2), (.int .i64 8)], (.int .i64 (-112523264))),
  ([(.int .u8 3), (.int .i64 3), (.int .i64 2), (.int .i64 8)], (.int .i64 (-104582144))),
  ([(.int .u8 3), (.int .i64 4), (.int .i64 2), (.int .i64 8)], (.int .i64 (-11480064)))
 ]

theorem draw_all : (drawT.all fun p => V.plainL p.1 && V.plain p.2 && match ctx0 201 p.1 ⟨.nil, 0⟩ with | some q => V.beq q.1 p.2 | none => false) = true := by kernel_rfl

theorem draw_alone : ∀ p ∈ drawT, alone (ctxE litF (shortE (fun _ _ => none) (fun _ _ _ _ => none)) 3000 40 201) p.1 = some p.2 := by
  intro p hp
  have h := List.all_eq_true.1 draw_all p hp
  simp only [Bool.and_eq_true] at h
  exact alone_of_sim (ctxS_simK DTs_ok 40) h.2 h.1.1 h.1.2

end Go.PE
