/-
  DERIVED. GIVEN WITH THE SEED: THE CARDS: each row of YtcgjkbnijnefjaaGreatDoorRows.lean that lists a variable, with what it lists TIED to the program's text (the seventh form; the later family's looks); each row that meets fmt, with fmt's text TOLD by the authors' own Lean function (tested against real Go, not proved from fmt's source: count such statements apart). THE CARD IS WHAT COUNTS. Prove the row's statement (the work); the ties are given (YtcgjkbnijnefjaaGreatDoorTie.lean); close each card by the builder's one call (the guide's Derived/Test/ToyasCard.lean, 'card_holds'). Laid BY PROGRAM, IN A SANDBOX (cutbox-door.mjs). By AI agents, Wed Nov 11 2026. No macro, syntax, notation, axiom, sorry.
-/
import Derived.Test.YtcgjkbnijnefjaaGreatDoorRows
import GoSem.ClaimSeven
namespace Go.Proofs.YtcgjkbnijnefjaaGreatDoor
namespace Rows

/-- THE TIED CARD OF 'paddocklaw19.GroupStray'. -/
def groupStrayCard : Claim7 := { stood := { row := groupStrayRow, standIns := [], harness := (true, "08abe13f416492d1538e5d762a5e6c309ef72c195e0e68e8496b4d7b7e279fbf"), looks := false }, kinds := [], alts := [], laidByText := true, laidKinds := [.data, .data, .data], laidTests := true, laidLooks := .later }
def GroupStrayCardSaid : Prop := Claim7.holds Tryz.pinned (.plain (OpenSpec.ofChange groupStraySpec)) groupStrayCard

/-- THE TIED CARD OF 'paddocklaw19.GroupLoses'. -/
def groupLosesCard : Claim7 := { stood := { row := groupLosesRow, standIns := [], harness := (true, "08abe13f416492d1538e5d762a5e6c309ef72c195e0e68e8496b4d7b7e279fbf"), looks := false }, kinds := [], alts := [], laidByText := true, laidKinds := [.data, .data, .data], laidTests := true, laidLooks := .later }
def GroupLosesCardSaid : Prop := Claim7.holds Tryz.pinned (.plain (OpenSpec.ofChange groupLosesSpec)) groupLosesCard

/-- THE TIED CARD OF 'paddocklaw19.GroupAgain'. -/
def groupAgainCard : Claim7 := { stood := { row := groupAgainRow, standIns := [], harness := (true, "08abe13f416492d1538e5d762a5e6c309ef72c195e0e68e8496b4d7b7e279fbf"), looks := false }, kinds := [], alts := [], laidByText := true, laidKinds := [.data, .data, .data], laidTests := true, laidLooks := .later }
def GroupAgainCardSaid : Prop := Claim7.holds Tryz.pinned (.plain (OpenSpec.ofChange groupAgainSpec)) groupAgainCard

/-- THE TIED CARD OF 'paddocklaw19.GroupMoves'. -/
def groupMovesCard : Claim7 := { stood := { row := groupMovesRow, standIns := [], harness := (true, "08abe13f416492d1538e5d762a5e6c309ef72c195e0e68e8496b4d7b7e279fbf"), looks := false }, kinds := [], alts := [], laidByText := true, laidKinds := [.data, .data, .data], laidTests := true, laidLooks := .later }
def GroupMovesCardSaid : Prop := Claim7.holds Tryz.pinned (.plain (OpenSpec.ofChange groupMovesSpec)) groupMovesCard

/-- THE TIED CARD OF 'paddocklaw19.GroupStale'. -/
def groupStaleCard : Claim7 := { stood := { row := groupStaleRow, standIns := [], harness := (true, "08abe13f416492d1538e5d762a5e6c309ef72c195e0e68e8496b4d7b7e279fbf"), looks := false }, kinds := [], alts := [], laidByText := true, laidKinds := [.data, .data, .data], laidTests := true, laidLooks := .later }
def GroupStaleCardSaid : Prop := Claim7.holds Tryz.pinned (.plain (OpenSpec.ofChange groupStaleSpec)) groupStaleCard

/-- THE SECOND FORM's CARD OF 'paddocklaw19.GroupStray'. -/
def groupStrayUptoCard : Claim7 := { stood := { row := groupStrayUptoRow, standIns := [], harness := (true, "08abe13f416492d1538e5d762a5e6c309ef72c195e0e68e8496b4d7b7e279fbf"), looks := false }, kinds := [], alts := [], laidByText := true, laidKinds := [.data, .data, .data], laidTests := true, laidLooks := .later }
def GroupStrayUptoCardSaid : Prop := Claim7.holds Tryz.pinned (.plain (OpenSpec.upto groupStraySpec)) groupStrayUptoCard

/-- THE SECOND FORM's CARD OF 'paddocklaw19.GroupLoses'. -/
def groupLosesUptoCard : Claim7 := { stood := { row := groupLosesUptoRow, standIns := [], harness := (true, "08abe13f416492d1538e5d762a5e6c309ef72c195e0e68e8496b4d7b7e279fbf"), looks := false }, kinds := [], alts := [], laidByText := true, laidKinds := [.data, .data, .data], laidTests := true, laidLooks := .later }
def GroupLosesUptoCardSaid : Prop := Claim7.holds Tryz.pinned (.plain (OpenSpec.upto groupLosesSpec)) groupLosesUptoCard

/-- THE SECOND FORM's CARD OF 'paddocklaw19.GroupAgain'. -/
def groupAgainUptoCard : Claim7 := { stood := { row := groupAgainUptoRow, standIns := [], harness := (true, "08abe13f416492d1538e5d762a5e6c309ef72c195e0e68e8496b4d7b7e279fbf"), looks := false }, kinds := [], alts := [], laidByText := true, laidKinds := [.data, .data, .data], laidTests := true, laidLooks := .later }
def GroupAgainUptoCardSaid : Prop := Claim7.holds Tryz.pinned (.plain (OpenSpec.upto groupAgainSpec)) groupAgainUptoCard

/-- THE SECOND FORM's CARD OF 'paddocklaw19.GroupMoves'. -/
def groupMovesUptoCard : Claim7 := { stood := { row := groupMovesUptoRow, standIns := [], harness := (true, "08abe13f416492d1538e5d762a5e6c309ef72c195e0e68e8496b4d7b7e279fbf"), looks := false }, kinds := [], alts := [], laidByText := true, laidKinds := [.data, .data, .data], laidTests := true, laidLooks := .later }
def GroupMovesUptoCardSaid : Prop := Claim7.holds Tryz.pinned (.plain (OpenSpec.upto groupMovesSpec)) groupMovesUptoCard

/-- THE SECOND FORM's CARD OF 'paddocklaw19.GroupStale'. -/
def groupStaleUptoCard : Claim7 := { stood := { row := groupStaleUptoRow, standIns := [], harness := (true, "08abe13f416492d1538e5d762a5e6c309ef72c195e0e68e8496b4d7b7e279fbf"), looks := false }, kinds := [], alts := [], laidByText := true, laidKinds := [.data, .data, .data], laidTests := true, laidLooks := .later }
def GroupStaleUptoCardSaid : Prop := Claim7.holds Tryz.pinned (.plain (OpenSpec.upto groupStaleSpec)) groupStaleUptoCard
end Rows
end Go.Proofs.YtcgjkbnijnefjaaGreatDoor
