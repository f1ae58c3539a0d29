/-
  DERIVED. GIVEN WITH THE SEED: THE CARDS: each row of YtcmcijlbmkllpaaGreatDoorRows.lean that lists a variable, with what it lists TIED to the program's text (the seventh form; the later family's looks); each row that meets fmt, with fmt's text TOLD by the authors' own Lean function (tested against real Go, not proved from fmt's source: count such statements apart). THE CARD IS WHAT COUNTS. Prove the row's statement (the work); the ties are given (YtcmcijlbmkllpaaGreatDoorTie.lean); close each card by the builder's one call (the guide's Derived/Test/ToyasCard.lean, 'card_holds'). Laid BY PROGRAM, IN A SANDBOX (cutbox-door.mjs). By AI agents, Wed Nov 11 2026. No macro, syntax, notation, axiom, sorry.
-/
import Derived.Test.YtcmcijlbmkllpaaGreatDoorRows
import GoSem.ClaimSeven
namespace Go.Proofs.YtcmcijlbmkllpaaGreatDoor
namespace Rows

/-- THE TIED CARD OF 'paddocklaw19.GroupReads'. -/
def groupReadsCard : Claim7 := { stood := { row := groupReadsRow, standIns := [], harness := (true, "1499547bdec287f0ecef303b61b6cdc1e566a90e1c5c63a1e4a055493b3863d8"), looks := false }, kinds := [], alts := [], laidByText := true, laidKinds := [.data, .data, .data], laidTests := true, laidLooks := .later }
def GroupReadsCardSaid : Prop := Claim7.holds Tryz.pinned (.plain (OpenSpec.ofChange groupReadsSpec)) groupReadsCard

/-- THE TIED CARD OF 'paddocklaw19.GroupMoves'. -/
def groupMovesCard : Claim7 := { stood := { row := groupMovesRow, standIns := [], harness := (true, "1499547bdec287f0ecef303b61b6cdc1e566a90e1c5c63a1e4a055493b3863d8"), looks := false }, kinds := [], alts := [], laidByText := true, laidKinds := [.data, .data, .data], laidTests := true, laidLooks := .later }
def GroupMovesCardSaid : Prop := Claim7.holds Tryz.pinned (.plain (OpenSpec.ofChange groupMovesSpec)) groupMovesCard

/-- THE TIED CARD OF 'paddocklaw19.GroupFew'. -/
def groupFewCard : Claim7 := { stood := { row := groupFewRow, standIns := [], harness := (true, "1499547bdec287f0ecef303b61b6cdc1e566a90e1c5c63a1e4a055493b3863d8"), looks := false }, kinds := [], alts := [], laidByText := true, laidKinds := [.data, .data, .data], laidTests := true, laidLooks := .later }
def GroupFewCardSaid : Prop := Claim7.holds Tryz.pinned (.plain (OpenSpec.ofChange groupFewSpec)) groupFewCard

/-- THE SECOND FORM's CARD OF 'paddocklaw19.GroupReads'. -/
def groupReadsUptoCard : Claim7 := { stood := { row := groupReadsUptoRow, standIns := [], harness := (true, "1499547bdec287f0ecef303b61b6cdc1e566a90e1c5c63a1e4a055493b3863d8"), looks := false }, kinds := [], alts := [], laidByText := true, laidKinds := [.data, .data, .data], laidTests := true, laidLooks := .later }
def GroupReadsUptoCardSaid : Prop := Claim7.holds Tryz.pinned (.plain (OpenSpec.upto groupReadsSpec)) groupReadsUptoCard

/-- THE SECOND FORM's CARD OF 'paddocklaw19.GroupMoves'. -/
def groupMovesUptoCard : Claim7 := { stood := { row := groupMovesUptoRow, standIns := [], harness := (true, "1499547bdec287f0ecef303b61b6cdc1e566a90e1c5c63a1e4a055493b3863d8"), looks := false }, kinds := [], alts := [], laidByText := true, laidKinds := [.data, .data, .data], laidTests := true, laidLooks := .later }
def GroupMovesUptoCardSaid : Prop := Claim7.holds Tryz.pinned (.plain (OpenSpec.upto groupMovesSpec)) groupMovesUptoCard

/-- THE SECOND FORM's CARD OF 'paddocklaw19.GroupFew'. -/
def groupFewUptoCard : Claim7 := { stood := { row := groupFewUptoRow, standIns := [], harness := (true, "1499547bdec287f0ecef303b61b6cdc1e566a90e1c5c63a1e4a055493b3863d8"), looks := false }, kinds := [], alts := [], laidByText := true, laidKinds := [.data, .data, .data], laidTests := true, laidLooks := .later }
def GroupFewUptoCardSaid : Prop := Claim7.holds Tryz.pinned (.plain (OpenSpec.upto groupFewSpec)) groupFewUptoCard
end Rows
end Go.Proofs.YtcmcijlbmkllpaaGreatDoor
